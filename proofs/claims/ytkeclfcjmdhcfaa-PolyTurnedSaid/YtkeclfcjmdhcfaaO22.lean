/- PolyTurned walked. No condition. -/
import Derived.Test.YtkeclfcjmdhcfaaO18
namespace Go.Proofs.Ytkeclfcjmdhcfaa
open Go Go.VM
attribute [local irreducible] PurV Pur Step RL W D ACalls Then InBlock Fini
set_option linter.unusedVariables false
set_option linter.unusedSimpArgs false
set_option maxHeartbeats 20000000
/-- Told from another corner on. -/
def rotP (P : List PT) (k : Nat) : List PT := P.drop (k % P.length) ++ P.take (k % P.length)
theorem rotP_at {P : List PT} {k i : Nat} (h : i < P.length) : (rotP P k)[i]? = P[(i + k) % P.length]? := by
  have hp : 0 < P.length := by omega
  have hk := Nat.mod_lt k hp
  unfold rotP
  rw [Nat.add_mod, Nat.mod_eq_of_lt h]
  generalize k % P.length = m at *
  by_cases c : i < P.length - m
  · rw [List.getElem?_append_left (by rw [List.length_drop]; exact c), List.getElem?_drop, Nat.mod_eq_of_lt (by omega), Nat.add_comm]
  · rw [List.getElem?_append_right (by rw [List.length_drop]; omega), List.length_drop, List.getElem?_take, if_pos (by omega)]
    congr 1
    rw [Nat.mod_eq_sub_mod (by omega), Nat.mod_eq_of_lt (by omega)]
    omega
theorem rotP_len (P : List PT) (k : Nat) : (rotP P k).length = P.length := by
  unfold rotP
  rw [List.length_append, List.length_drop, List.length_take]
  rcases Nat.eq_zero_or_pos P.length with h | h
  · rw [h]; simp
  · have := Nat.mod_lt k h; omega
theorem rotP_mem {P : List PT} {k : Nat} {p : PT} (h : p ∈ rotP P k) : p ∈ P := by
  unfold rotP at h
  rcases List.mem_append.1 h with h | h
  · exact List.mem_of_mem_drop h
  · exact List.mem_of_mem_take h
theorem rotP_turns (P : List PT) (k : Nat) (x y : Int) : turnsF (rotP P k) x y = turnsF P x y := by
  unfold rotP; rw [turns_turn, List.take_append_drop]
theorem rotP_twice (P : List PT) (k : Nat) : twiceF (rotP P k) = twiceF P := by
  unfold rotP; rw [twice_turn, List.take_append_drop]
theorem rot_take {P : List PT} {k i : Nat} {p : PT} (h : i < P.length) (hp : P[(i + k) % P.length]? = some p) : (rotP P k).take (i + 1) = (rotP P k).take i ++ [p] := by
  rw [List.take_add_one, rotP_at h, hp]; rfl
theorem rev_take {P : List PT} {i : Nat} {p : PT} (hp : P[i]? = some p) : (P.take (i + 1)).reverse = p :: (P.take i).reverse := by
  rw [List.take_add_one, hp]; simp
theorem rem_nat2 {i k n : Nat} : ((i : Int) + (k : Int)) % (n : Int) = (((i + k) % n : Nat) : Int) := by
  rw [← Int.natCast_add]; rfl
set_option maxRecDepth 100000 in
theorem turned_c (l : List QP) (k0 : Nat) (x y : Int) (ok : ∀ q ∈ l, q.ok) (hk0 : k0 ≤ 255) (hx : -128 ≤ x ∧ x ≤ 127) (hy : -128 ≤ y ∧ y ≤ 127) :
    ACalls Try.prog 5 [.ro 2 (l.map QP.enc), .val (.int .u8 (k0 : Int)), .agg [.val (.int .i8 x), .val (.int .i8 y)]] [] (fun r h' => r = .val (.bool true)) := by
  by_cases hl : 40 < l.length
  · refine ACalls.intro Try.func5 rfl Try.ntmps5 Try.results5 (Nat.le_of_ble_eq_true rfl) ?_
    refine W.len 0 rfl (fun hll => ?_); simp only [ints, splice, List.length_map, List.length_append, List.length_cons, List.length_nil, List.length_take, List.length_drop, List.length_set, List.length_replicate] at hll
    (repeat' (first | (refine iS ?_; refine iMu ?_; refine S.mapU ?_) | refine svz ⟨fun b hq => ?_⟩ | refine sv1 ?_ | refine svs ⟨?_⟩ | refine svu ⟨fun u => ?_⟩ | (refine svg (fun hg => ?_) (fun hg => ?_) <;> try (exfalso; first | omega | contradiction)) | (refine svc (fun hc => ?_) (fun hc => ?_) <;> try (exfalso; first | omega | contradiction)) | refine sv2 ?_ | refine svh (fun hb => ?_) (fun hb => ?_) | refine svb (fun b => ?_) | refine sva ?_ | refine sv3 ?_))
    refine S.call ?_; refine (awake_c _).mono ?_; rintro r h' ⟨rfl, hh⟩; subst hh
    (repeat' (first | (refine iS ?_; refine iMu ?_; refine S.mapU ?_) | refine svz ⟨fun b hq => ?_⟩ | refine sv1 ?_ | refine svs ⟨?_⟩ | refine svu ⟨fun u => ?_⟩ | (refine svg (fun hg => ?_) (fun hg => ?_) <;> try (exfalso; first | omega | contradiction)) | (refine svc (fun hc => ?_) (fun hc => ?_) <;> try (exfalso; first | omega | contradiction)) | refine sv2 ?_ | refine svh (fun hb => ?_) (fun hb => ?_) | refine svb (fun b => ?_) | refine sva ?_ | refine sv3 ?_))
    exact fin_r (h' := _) rfl
  by_cases hl0 : l.length = 0
  · refine ACalls.intro Try.func5 rfl Try.ntmps5 Try.results5 (Nat.le_of_ble_eq_true rfl) ?_
    (repeat' (first | (refine iS ?_; refine iMu ?_; refine S.mapU ?_) | refine svz ⟨fun b hq => ?_⟩ | refine sv1 ?_ | refine svs ⟨?_⟩ | refine svu ⟨fun u => ?_⟩ | (refine svg (fun hg => ?_) (fun hg => ?_) <;> try (exfalso; first | omega | contradiction)) | (refine svc (fun hc => ?_) (fun hc => ?_) <;> try (exfalso; first | omega | contradiction)) | refine sv2 ?_ | refine svh (fun hb => ?_) (fun hb => ?_) | refine svb (fun b => ?_) | refine sva ?_ | refine sv3 ?_))
    refine S.call ?_; refine (awake_c _).mono ?_; rintro r h' ⟨rfl, hh⟩; subst hh
    (repeat' (first | (refine iS ?_; refine iMu ?_; refine S.mapU ?_) | refine svz ⟨fun b hq => ?_⟩ | refine sv1 ?_ | refine svs ⟨?_⟩ | refine svu ⟨fun u => ?_⟩ | (refine svg (fun hg => ?_) (fun hg => ?_) <;> try (exfalso; first | omega | contradiction)) | (refine svc (fun hc => ?_) (fun hc => ?_) <;> try (exfalso; first | omega | contradiction)) | refine sv2 ?_ | refine svh (fun hb => ?_) (fun hb => ?_) | refine svb (fun b => ?_) | refine sva ?_ | refine sv3 ?_))
    exact fin_r (h' := _) rfl
  have p1 := fun h => points_c l h (by omega) ok
  have hq := qp_near ok
  have hpl : (l.map QP.pt).length = l.length := List.length_map ..
  refine ACalls.intro Try.func5 rfl Try.ntmps5 Try.results5 (Nat.le_of_ble_eq_true rfl) ?_
  (repeat' (first | (refine iS ?_; refine iMu ?_; refine S.mapU ?_) | refine svz ⟨fun b hq => ?_⟩ | refine sv1 ?_ | refine svs ⟨?_⟩ | refine svu ⟨fun u => ?_⟩ | (refine svg (fun hg => ?_) (fun hg => ?_) <;> try (exfalso; first | omega | contradiction)) | (refine svc (fun hc => ?_) (fun hc => ?_) <;> try (exfalso; first | omega | contradiction)) | refine sv2 ?_ | refine svh (fun hb => ?_) (fun hb => ?_) | refine svb (fun b => ?_) | refine sva ?_ | refine sv3 ?_))
  revert b; intro b5
  generalize l.map QP.pt = P at *
  have hnr : ∀ p ∈ P, p.near := near_of hq (by omega) (by omega)
  have hnx : nearI x := by unfold nearI; omega
  have hny : nearI y := by unfold nearI; omega
  have tA := fun h => turns_c P x y h
  have tB := fun h => turns_c (rotP P k0) x y h
  have tC := fun h => turns_c P.reverse x y h
  have wA := fun h => twice_c P h
  have wB := fun h => twice_c (rotP P k0) h
  have wC := fun h => twice_c P.reverse h
  have iA := fun (r : Int) h => pinside_c r x y P h
  have iB := fun (r : Int) h => pinside_c r x y (rotP P k0) h
  have iC := fun (r : Int) h => pinside_c r x y P.reverse h
  have hB : turnsX (rotP P k0) x y = turnsX P x y := by
    rw [turnsX_eq hnr (by omega) hnx hny, turnsX_eq (fun p hp => hnr p (rotP_mem hp)) (by rw [rotP_len]; omega) hnx hny, rotP_turns]
  have hC : turnsX P.reverse x y = -turnsX P x y := by
    rw [turnsX_eq hnr (by omega) hnx hny, turnsX_eq (fun p hp => hnr p (List.mem_reverse.1 hp)) (by rw [List.length_reverse]; omega) hnx hny, turns_rev]
  have hiB : ∀ r, insideX r x y (rotP P k0) = insideX r x y P := fun r => by unfold insideX; rw [hB]
  have hiC : ∀ r, insideX r x y P.reverse = insideX r x y P := fun r => by unfold insideX; rw [hC, insF_neg]
  have h2B : twiceX (rotP P k0) = twiceX P := by
    rw [twiceX_eq hnr (by omega), twiceX_eq (fun p hp => hnr p (rotP_mem hp)) (by rw [rotP_len]; omega), rotP_twice]
  have h2C : twiceX P.reverse = -twiceX P := by
    rw [twiceX_eq hnr (by omega), twiceX_eq (fun p hp => hnr p (List.mem_reverse.1 hp)) (by rw [List.length_reverse]; omega), twice_rev]
  have htb : -256 ≤ turnsX P x y ∧ turnsX P x y ≤ 256 := by
    rw [turnsX_eq hnr (by omega) hnx hny]
    have := turns_bd P P.length x y
    rw [show (edgesP P).take P.length = edgesP P from List.take_of_length_le (by rw [edges_len]; exact Nat.le_refl _)] at this
    show -256 ≤ turnsF P x y ∧ turnsF P x y ≤ 256
    unfold turnsF; omega
  have hwb : -1000000000000000 ≤ twiceX P ∧ twiceX P ≤ 1000000000000000 := by
    rw [twiceX_eq hnr (by omega)]
    have := sumF_bd (f := fun e : PT × PT => e.1.x * e.2.y - e.2.x * e.1.y) (B := 2199023255552) (by omega) (l := edgesP P) fun e he => tw_bd (hnr _ (edges_mem he).1) (hnr _ (edges_mem he).2)
    rw [edges_len] at this
    show -1000000000000000 ≤ twiceF P ∧ twiceF P ≤ 1000000000000000
    unfold twiceF; omega
  rw [hB] at tB
  rw [hC] at tC
  rw [h2B] at wB
  rw [h2C] at wC
  simp only [hiB] at iB
  simp only [hiC] at iC
  clear hB hC hiB hiC h2B h2C hnx hny hnr hq
  generalize turnsX P x y = t0 at *
  generalize twiceX P = w0 at *
  generalize hI : (fun r => insideX r x y P) = I0 at *
  have hIe : ∀ r, insideX r x y P = I0 r := fun r => by rw [← hI]
  simp only [hIe] at iA iB iC
  clear hIe hI
  have hrl : (rotP P k0).length = P.length := rotP_len P k0
  have hvl : P.reverse.length = P.length := List.length_reverse
  refine S.call ?_; refine (p1 _).mono ?_; rintro r h' ⟨rfl, hh⟩; subst hh
  (repeat' (first | (refine iS ?_; refine iMu ?_; refine S.mapU ?_) | refine svz ⟨fun b hq => ?_⟩ | refine sv1 ?_ | refine svs ⟨?_⟩ | refine svu ⟨fun u => ?_⟩ | (refine svg (fun hg => ?_) (fun hg => ?_) <;> try (exfalso; first | omega | contradiction)) | (refine svc (fun hc => ?_) (fun hc => ?_) <;> try (exfalso; first | omega | contradiction)) | refine sv2 ?_ | refine svh (fun hb => ?_) (fun hb => ?_) | refine svb (fun b => ?_) | refine sva ?_ | refine sv3 ?_))
  refine R2.T (v := .val (.pointer (some ⟨b5, 0, none⟩))) ?_ (hp := .l rfl (pur_index_arr (n := 2) (k := 1) (j := 0) rfl rfl rfl (by decide)).pur)
  (repeat' (first | (refine iS ?_; refine iMu ?_; refine S.mapU ?_) | refine svz ⟨fun b hq => ?_⟩ | refine sv1 ?_ | refine svs ⟨?_⟩ | refine svu ⟨fun u => ?_⟩ | (refine svg (fun hg => ?_) (fun hg => ?_) <;> try (exfalso; first | omega | contradiction)) | (refine svc (fun hc => ?_) (fun hc => ?_) <;> try (exfalso; first | omega | contradiction)) | refine sv2 ?_ | refine svh (fun hb => ?_) (fun hb => ?_) | refine svb (fun b => ?_) | refine sva ?_ | refine sv3 ?_))
  refine R2.T (v := .val (.pointer (some ⟨b5, 1, none⟩))) ?_ (hp := .l rfl (pur_index_arr (n := 2) (k := 1) (j := 1) rfl rfl rfl (by decide)).pur)
  (repeat' (first | (refine iS ?_; refine iMu ?_; refine S.mapU ?_) | refine svz ⟨fun b hq => ?_⟩ | refine sv1 ?_ | refine svs ⟨?_⟩ | refine svu ⟨fun u => ?_⟩ | (refine svg (fun hg => ?_) (fun hg => ?_) <;> try (exfalso; first | omega | contradiction)) | (refine svc (fun hc => ?_) (fun hc => ?_) <;> try (exfalso; first | omega | contradiction)) | refine sv2 ?_ | refine svh (fun hb => ?_) (fun hb => ?_) | refine svb (fun b => ?_) | refine sva ?_ | refine sv3 ?_))
  refine W.nil_ 2 23 ?_
  refine W.nil_ 2 23 ?_
  refine W.loop (J := fun q : Nat × Value × Value => ⟨121, [(12, .val (.int .i64 (q.1))), (11, .val q.2.1), (10, .val q.2.2), (9, .val (.int .i64 (y))), (8, .val (.int .i64 (x))), (7, .ro 2 (P.map PT.enc)), (1, .val (.int .u8 k0))], .own q.2.1 2 ((P.take q.1).reverse.map PT.enc) 23 :: .own q.2.2 2 (((rotP P k0).take q.1).map PT.enc) 23 :: []⟩)
    (Φ := fun q => q.1 ≤ P.length) (μ := fun q => P.length - q.1) (0, .slice none 0 0, .slice none 0 0) ⟨rfl, (by repeat (first | exact LeT.nil | refine LeT.cons rfl ?_ | refine LeT.consw rfl (by (repeat (first | exact Wk.refl _ | exact Wk.nilr _ | exact Wk.nilm | apply Wk.aggc | apply Wk.tupc | exact Wk.aggn | exact Wk.tupn)); first | done | fail) ?_)), (by repeat (first | exact LeH.refl _ | exact LeH.nil _ | refine LeH.cons (by (fail_if_success (apply tkG)); (repeat (first | exact Tk.here | apply Tk.there)); first | done | fail) ?_ | refine LeH.boxw (by (fail_if_success (apply tkG)); (repeat (first | exact Tk.here | apply Tk.there)); first | done | fail) (by (repeat (first | exact Wk.refl _ | exact Wk.nilr _ | exact Wk.nilm | apply Wk.aggc | apply Wk.tupc | exact Wk.aggn | exact Wk.tupn)); first | done | fail) ?_ | refine LeH.skip ?_))⟩ (Nat.zero_le _) ?_
  rintro ⟨i, vc, vb⟩ hi
  dsimp only at hi ⊢
  have hl1 : ((P.take i).reverse).length ≤ 40 := by rw [List.length_reverse, List.length_take]; omega
  have hl2 : ((rotP P k0).take i).length ≤ 40 := by rw [List.length_take]; omega
  rcases Nat.lt_or_ge i P.length with hlt | hge
  · obtain ⟨p, hp⟩ : ∃ p, P[i]? = some p := ⟨_, List.getElem?_eq_getElem hlt⟩
    have hml : (i + k0) % P.length < P.length := Nat.mod_lt _ (by omega)
    obtain ⟨q, hq⟩ : ∃ q, P[(i + k0) % P.length]? = some q := ⟨_, List.getElem?_eq_getElem hml⟩
    have s1 := rot_take (P := P) hlt hq
    have s2 := rev_take hp
    have hr : Unit → ((i : Int) + (k0 : Int)) % (P.length : Int) = (((i + k0) % P.length : Nat) : Int) := fun _ => rem_nat2
    generalize (P.take i).reverse = C at *
    generalize (rotP P k0).take i = B at *
    generalize (i + k0) % P.length = m at *
    clear tA tB tC wA wB wC iA iB iC p1
    (repeat' (first | (refine iS ?_; refine iMu ?_; refine S.mapU ?_) | refine svz ⟨fun b hq => ?_⟩ | refine sv1 ?_ | refine svs ⟨?_⟩ | refine svu ⟨fun u => ?_⟩ | (refine svg (fun hg => ?_) (fun hg => ?_) <;> try (exfalso; first | omega | contradiction)) | (refine svc (fun hc => ?_) (fun hc => ?_) <;> try (exfalso; first | omega | contradiction)) | refine sv2 ?_ | refine svh (fun hb => ?_) (fun hb => ?_) | refine svb (fun b => ?_) | refine sva ?_ | refine sv3 ?_))
    rw [hr ()]
    clear hr
    (repeat' (first | (refine iS ?_; refine iMu ?_; refine S.mapU ?_) | refine svz ⟨fun b hq => ?_⟩ | refine sv1 ?_ | refine svs ⟨?_⟩ | refine svu ⟨fun u => ?_⟩ | (refine svg (fun hg => ?_) (fun hg => ?_) <;> try (exfalso; first | omega | contradiction)) | (refine svc (fun hc => ?_) (fun hc => ?_) <;> try (exfalso; first | omega | contradiction)) | refine sv2 ?_ | refine svh (fun hb => ?_) (fun hb => ?_) | refine svb (fun b => ?_) | refine sva ?_ | refine sv3 ?_))
    rename_i z1 z2 z3
    exact ⟨(i + 1, u, z2), hlt, by dsimp only; rw [s1, s2, List.map_append]; exact ⟨rfl, (by repeat (first | exact LeT.nil | refine LeT.cons rfl ?_ | refine LeT.consw rfl (by (repeat (first | exact Wk.refl _ | exact Wk.nilr _ | exact Wk.nilm | apply Wk.aggc | apply Wk.tupc | exact Wk.aggn | exact Wk.tupn)); first | done | fail) ?_)), (by repeat (first | exact LeH.refl _ | exact LeH.nil _ | refine LeH.cons (by (fail_if_success (apply tkG)); (repeat (first | exact Tk.here | apply Tk.there)); first | done | fail) ?_ | refine LeH.boxw (by (fail_if_success (apply tkG)); (repeat (first | exact Tk.here | apply Tk.there)); first | done | fail) (by (repeat (first | exact Wk.refl _ | exact Wk.nilr _ | exact Wk.nilm | apply Wk.aggc | apply Wk.tupc | exact Wk.aggn | exact Wk.tupn)); first | done | fail) ?_ | refine LeH.skip ?_))⟩, by dsimp only; omega⟩
  · rw [List.take_of_length_le (by omega), List.take_of_length_le (by omega)]
    generalize rotP P k0 = B at *
    generalize P.reverse = C at *
    clear p1
    refine W.frz (v := vc) (by (fail_if_success (apply tkG)); (repeat (first | exact Tk.here | apply Tk.there)); first | done | fail) (by repeat' (first | apply FrzT.cons | exact FrzT.rest _ | exact Frz.hit | apply Frz.aggc | apply Frz.tupc | exact Frz.aggn | exact Frz.tupn | exact Frz.keep _)) (by repeat' (first | apply FrzH.box | apply FrzH.keep | exact FrzH.rest _ | exact Frz.hit | apply Frz.aggc | apply Frz.tupc | exact Frz.aggn | exact Frz.tupn | exact Frz.keep _)) ?_
    refine W.frz (v := vb) (by (fail_if_success (apply tkG)); (repeat (first | exact Tk.here | apply Tk.there)); first | done | fail) (by repeat' (first | apply FrzT.cons | exact FrzT.rest _ | exact Frz.hit | apply Frz.aggc | apply Frz.tupc | exact Frz.aggn | exact Frz.tupn | exact Frz.keep _)) (by repeat' (first | apply FrzH.box | apply FrzH.keep | exact FrzH.rest _ | exact Frz.hit | apply Frz.aggc | apply Frz.tupc | exact Frz.aggn | exact Frz.tupn | exact Frz.keep _)) ?_
    (repeat' (first | (refine iS ?_; refine iMu ?_; refine S.mapU ?_) | refine svz ⟨fun b hq => ?_⟩ | refine sv1 ?_ | refine svs ⟨?_⟩ | refine svu ⟨fun u => ?_⟩ | (refine svg (fun hg => ?_) (fun hg => ?_) <;> try (exfalso; first | omega | contradiction)) | (refine svc (fun hc => ?_) (fun hc => ?_) <;> try (exfalso; first | omega | contradiction)) | refine sv2 ?_ | refine svh (fun hb => ?_) (fun hb => ?_) | refine svb (fun b => ?_) | refine sva ?_ | refine sv3 ?_))
    refine S.call ?_; refine (tA _).mono ?_; rintro r h' ⟨rfl, hh⟩; subst hh
    (repeat' (first | (refine iS ?_; refine iMu ?_; refine S.mapU ?_) | refine svz ⟨fun b hq => ?_⟩ | refine sv1 ?_ | refine svs ⟨?_⟩ | refine svu ⟨fun u => ?_⟩ | (refine svg (fun hg => ?_) (fun hg => ?_) <;> try (exfalso; first | omega | contradiction)) | (refine svc (fun hc => ?_) (fun hc => ?_) <;> try (exfalso; first | omega | contradiction)) | refine sv2 ?_ | refine svh (fun hb => ?_) (fun hb => ?_) | refine svb (fun b => ?_) | refine sva ?_ | refine sv3 ?_))
    refine W.loop (J := fun i : Nat => ⟨121, [(14, .val (.int .i64 (i))), (13, .val (.int .i64 (t0))), (11, .ro 2 (C.map PT.enc)), (10, .ro 2 (B.map PT.enc)), (9, .val (.int .i64 (y))), (8, .val (.int .i64 (x))), (7, .ro 2 (P.map PT.enc)), (1, .val (.int .u8 k0))], []⟩)
      (Φ := fun i => i ≤ 2) (μ := fun i => 2 - i) 0 ⟨rfl, (by repeat (first | exact LeT.nil | refine LeT.cons rfl ?_ | refine LeT.consw rfl (by (repeat (first | exact Wk.refl _ | exact Wk.nilr _ | exact Wk.nilm | apply Wk.aggc | apply Wk.tupc | exact Wk.aggn | exact Wk.tupn)); first | done | fail) ?_)), (by repeat (first | exact LeH.refl _ | exact LeH.nil _ | refine LeH.cons (by (fail_if_success (apply tkG)); (repeat (first | exact Tk.here | apply Tk.there)); first | done | fail) ?_ | refine LeH.boxw (by (fail_if_success (apply tkG)); (repeat (first | exact Tk.here | apply Tk.there)); first | done | fail) (by (repeat (first | exact Wk.refl _ | exact Wk.nilr _ | exact Wk.nilm | apply Wk.aggc | apply Wk.tupc | exact Wk.aggn | exact Wk.tupn)); first | done | fail) ?_ | refine LeH.skip ?_))⟩ (Nat.zero_le _) ?_
    intro i hi
    rcases Nat.lt_or_ge i 2 with hlt | hge
    · have j1 := iA i
      have j2 := iB i
      have j3 := iC i
      generalize I0 (i : Int) = z at *
      clear iA iB iC tA tB tC wA wB wC
      (repeat' (first | (refine iS ?_; refine iMu ?_; refine S.mapU ?_) | refine svz ⟨fun b hq => ?_⟩ | refine sv1 ?_ | refine svs ⟨?_⟩ | refine svu ⟨fun u => ?_⟩ | (refine svg (fun hg => ?_) (fun hg => ?_) <;> try (exfalso; first | omega | contradiction)) | (refine svc (fun hc => ?_) (fun hc => ?_) <;> try (exfalso; first | omega | contradiction)) | refine sv2 ?_ | refine svh (fun hb => ?_) (fun hb => ?_) | refine svb (fun b => ?_) | refine sva ?_ | refine sv3 ?_))
      refine S.call ?_; refine (j1 _).mono ?_; rintro r h' ⟨rfl, hh⟩; subst hh
      (repeat' (first | (refine iS ?_; refine iMu ?_; refine S.mapU ?_) | refine svz ⟨fun b hq => ?_⟩ | refine sv1 ?_ | refine svs ⟨?_⟩ | refine svu ⟨fun u => ?_⟩ | (refine svg (fun hg => ?_) (fun hg => ?_) <;> try (exfalso; first | omega | contradiction)) | (refine svc (fun hc => ?_) (fun hc => ?_) <;> try (exfalso; first | omega | contradiction)) | refine sv2 ?_ | refine svh (fun hb => ?_) (fun hb => ?_) | refine svb (fun b => ?_) | refine sva ?_ | refine sv3 ?_))
      refine S.call ?_; refine (j2 _).mono ?_; rintro r h' ⟨rfl, hh⟩; subst hh
      (repeat' (first | (refine iS ?_; refine iMu ?_; refine S.mapU ?_) | refine svz ⟨fun b hq => ?_⟩ | refine sv1 ?_ | refine svs ⟨?_⟩ | refine svu ⟨fun u => ?_⟩ | (refine svg (fun hg => ?_) (fun hg => ?_) <;> try (exfalso; first | omega | contradiction)) | (refine svc (fun hc => ?_) (fun hc => ?_) <;> try (exfalso; first | omega | contradiction)) | refine sv2 ?_ | refine svh (fun hb => ?_) (fun hb => ?_) | refine svb (fun b => ?_) | refine sva ?_ | refine sv3 ?_))
      refine S.call ?_; refine (j3 _).mono ?_; rintro r h' ⟨rfl, hh⟩; subst hh
      (repeat' (first | (refine iS ?_; refine iMu ?_; refine S.mapU ?_) | refine svz ⟨fun b hq => ?_⟩ | refine sv1 ?_ | refine svs ⟨?_⟩ | refine svu ⟨fun u => ?_⟩ | (refine svg (fun hg => ?_) (fun hg => ?_) <;> try (exfalso; first | omega | contradiction)) | (refine svc (fun hc => ?_) (fun hc => ?_) <;> try (exfalso; first | omega | contradiction)) | refine sv2 ?_ | refine svh (fun hb => ?_) (fun hb => ?_) | refine svb (fun b => ?_) | refine sva ?_ | refine sv3 ?_))
      exact ⟨i + 1, hlt, ⟨rfl, (by repeat (first | exact LeT.nil | refine LeT.cons rfl ?_ | refine LeT.consw rfl (by (repeat (first | exact Wk.refl _ | exact Wk.nilr _ | exact Wk.nilm | apply Wk.aggc | apply Wk.tupc | exact Wk.aggn | exact Wk.tupn)); first | done | fail) ?_)), (by repeat (first | exact LeH.refl _ | exact LeH.nil _ | refine LeH.cons (by (fail_if_success (apply tkG)); (repeat (first | exact Tk.here | apply Tk.there)); first | done | fail) ?_ | refine LeH.boxw (by (fail_if_success (apply tkG)); (repeat (first | exact Tk.here | apply Tk.there)); first | done | fail) (by (repeat (first | exact Wk.refl _ | exact Wk.nilr _ | exact Wk.nilm | apply Wk.aggc | apply Wk.tupc | exact Wk.aggn | exact Wk.tupn)); first | done | fail) ?_ | refine LeH.skip ?_))⟩, by omega⟩
    · have e : i = 2 := by omega
      subst e
      clear iA iB iC tA
      (repeat' (first | (refine iS ?_; refine iMu ?_; refine S.mapU ?_) | refine svz ⟨fun b hq => ?_⟩ | refine sv1 ?_ | refine svs ⟨?_⟩ | refine svu ⟨fun u => ?_⟩ | (refine svg (fun hg => ?_) (fun hg => ?_) <;> try (exfalso; first | omega | contradiction)) | (refine svc (fun hc => ?_) (fun hc => ?_) <;> try (exfalso; first | omega | contradiction)) | refine sv2 ?_ | refine svh (fun hb => ?_) (fun hb => ?_) | refine svb (fun b => ?_) | refine sva ?_ | refine sv3 ?_))
      refine S.call ?_; refine (tB _).mono ?_; rintro r h' ⟨rfl, hh⟩; subst hh
      (repeat' (first | (refine iS ?_; refine iMu ?_; refine S.mapU ?_) | refine svz ⟨fun b hq => ?_⟩ | refine sv1 ?_ | refine svs ⟨?_⟩ | refine svu ⟨fun u => ?_⟩ | (refine svg (fun hg => ?_) (fun hg => ?_) <;> try (exfalso; first | omega | contradiction)) | (refine svc (fun hc => ?_) (fun hc => ?_) <;> try (exfalso; first | omega | contradiction)) | refine sv2 ?_ | refine svh (fun hb => ?_) (fun hb => ?_) | refine svb (fun b => ?_) | refine sva ?_ | refine sv3 ?_))
      refine S.call ?_; refine (tC _).mono ?_; rintro r h' ⟨rfl, hh⟩; subst hh
      (repeat' (first | (refine iS ?_; refine iMu ?_; refine S.mapU ?_) | refine svz ⟨fun b hq => ?_⟩ | refine sv1 ?_ | refine svs ⟨?_⟩ | refine svu ⟨fun u => ?_⟩ | (refine svg (fun hg => ?_) (fun hg => ?_) <;> try (exfalso; first | omega | contradiction)) | (refine svc (fun hc => ?_) (fun hc => ?_) <;> try (exfalso; first | omega | contradiction)) | refine sv2 ?_ | refine svh (fun hb => ?_) (fun hb => ?_) | refine svb (fun b => ?_) | refine sva ?_ | refine sv3 ?_))
      refine S.call ?_; refine (wB _).mono ?_; rintro r h' ⟨rfl, hh⟩; subst hh
      (repeat' (first | (refine iS ?_; refine iMu ?_; refine S.mapU ?_) | refine svz ⟨fun b hq => ?_⟩ | refine sv1 ?_ | refine svs ⟨?_⟩ | refine svu ⟨fun u => ?_⟩ | (refine svg (fun hg => ?_) (fun hg => ?_) <;> try (exfalso; first | omega | contradiction)) | (refine svc (fun hc => ?_) (fun hc => ?_) <;> try (exfalso; first | omega | contradiction)) | refine sv2 ?_ | refine svh (fun hb => ?_) (fun hb => ?_) | refine svb (fun b => ?_) | refine sva ?_ | refine sv3 ?_))
      refine S.call ?_; refine (wA _).mono ?_; rintro r h' ⟨rfl, hh⟩; subst hh
      (repeat' (first | (refine iS ?_; refine iMu ?_; refine S.mapU ?_) | refine svz ⟨fun b hq => ?_⟩ | refine sv1 ?_ | refine svs ⟨?_⟩ | refine svu ⟨fun u => ?_⟩ | (refine svg (fun hg => ?_) (fun hg => ?_) <;> try (exfalso; first | omega | contradiction)) | (refine svc (fun hc => ?_) (fun hc => ?_) <;> try (exfalso; first | omega | contradiction)) | refine sv2 ?_ | refine svh (fun hb => ?_) (fun hb => ?_) | refine svb (fun b => ?_) | refine sva ?_ | refine sv3 ?_))
      refine S.call ?_; refine (wC _).mono ?_; rintro r h' ⟨rfl, hh⟩; subst hh
      (repeat' (first | (refine iS ?_; refine iMu ?_; refine S.mapU ?_) | refine svz ⟨fun b hq => ?_⟩ | refine sv1 ?_ | refine svs ⟨?_⟩ | refine svu ⟨fun u => ?_⟩ | (refine svg (fun hg => ?_) (fun hg => ?_) <;> try (exfalso; first | omega | contradiction)) | (refine svc (fun hc => ?_) (fun hc => ?_) <;> try (exfalso; first | omega | contradiction)) | refine sv2 ?_ | refine svh (fun hb => ?_) (fun hb => ?_) | refine svb (fun b => ?_) | refine sva ?_ | refine sv3 ?_))
      refine S.call ?_; refine (wA _).mono ?_; rintro r h' ⟨rfl, hh⟩; subst hh
      (repeat' (first | (refine iS ?_; refine iMu ?_; refine S.mapU ?_) | refine svz ⟨fun b hq => ?_⟩ | refine sv1 ?_ | refine svs ⟨?_⟩ | refine svu ⟨fun u => ?_⟩ | (refine svg (fun hg => ?_) (fun hg => ?_) <;> try (exfalso; first | omega | contradiction)) | (refine svc (fun hc => ?_) (fun hc => ?_) <;> try (exfalso; first | omega | contradiction)) | refine sv2 ?_ | refine svh (fun hb => ?_) (fun hb => ?_) | refine svb (fun b => ?_) | refine sva ?_ | refine sv3 ?_))
      refine S.call ?_; refine (awake_c _).mono ?_; rintro r h' ⟨rfl, hh⟩; subst hh
      (repeat' (first | (refine iS ?_; refine iMu ?_; refine S.mapU ?_) | refine svz ⟨fun b hq => ?_⟩ | refine sv1 ?_ | refine svs ⟨?_⟩ | refine svu ⟨fun u => ?_⟩ | (refine svg (fun hg => ?_) (fun hg => ?_) <;> try (exfalso; first | omega | contradiction)) | (refine svc (fun hc => ?_) (fun hc => ?_) <;> try (exfalso; first | omega | contradiction)) | refine sv2 ?_ | refine svh (fun hb => ?_) (fun hb => ?_) | refine svb (fun b => ?_) | refine sva ?_ | refine sv3 ?_))
      exact fin_r (h' := _) rfl
theorem turned_row : ∀ l, FitAll maxLen [.sl 2 (.fld 1 (.int .i8) (.fld 1 (.int .i8) (.nil))), .int .u8, .fld 1 (.int .i8) (.fld 1 (.int .i8) (.nil))] l → ACalls Try.prog 5 l [] (fun r h' => r = .val (.bool true)) := by
  rintro l ⟨x, _, rfl, hx, y, _, rfl, hy, z, _, rfl, hz, rfl⟩
  obtain ⟨ls, rfl, _, hl⟩ := fit_sl (f := QP.enc) hx (fun y hy => qp_fit hy)
  obtain ⟨k, rfl, hk⟩ := fit_int hy
  obtain ⟨q, rfl, hq⟩ := qp_fit hz
  have hk := wf_u8 hk
  have := turned_c ls k.toNat q.a q.b hl (by omega) hq.1 hq.2
  rwa [show ((k.toNat : Nat) : Int) = k by omega] at this
end Go.Proofs.Ytkeclfcjmdhcfaa
