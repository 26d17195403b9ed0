/- PolyShares walked. No condition. -/
import Derived.Test.YtkeclfcjmdhcfaaO18
namespace Go.Proofs.Ytkeclfcjmdhcfaa
open Go Go.VM
attribute [local irreducible] PurV Pur Step RL W D ACalls Then InBlock Fini
set_option linter.unusedVariables false
set_option linter.unusedSimpArgs false
set_option maxHeartbeats 20000000
set_option maxRecDepth 100000 in
theorem shares_c (l : List QP) (c d : Nat) (x y : Int) (ok : ∀ q ∈ l, q.ok) (hc0 : c ≤ 255) (hd0 : d ≤ 255) (hx : -128 ≤ x ∧ x ≤ 127) (hy : -128 ≤ y ∧ y ≤ 127) :
    ACalls Try.prog 6 [.ro 2 (l.map QP.enc), .agg [.val (.int .u8 (c : Int)), .val (.int .u8 (d : Int))], .agg [.val (.int .i8 x), .val (.int .i8 y)]] [] (fun r h' => r = .val (.bool true)) := by
  by_cases hl : 40 < l.length
  · refine ACalls.intro Try.func6 rfl Try.ntmps6 Try.results6 (Nat.le_of_ble_eq_true rfl) ?_
    refine W.len 0 rfl (fun hll => ?_); simp only [ints, splice, List.length_map, List.length_append, List.length_cons, List.length_nil, List.length_take, List.length_drop, List.length_set, List.length_replicate] at hll
    (repeat' (first | (refine iS ?_; refine iMu ?_; refine S.mapU ?_) | refine svz ⟨fun b hq => ?_⟩ | refine sv1 ?_ | refine svs ⟨?_⟩ | refine svu ⟨fun u => ?_⟩ | (refine svg (fun hg => ?_) (fun hg => ?_) <;> try (exfalso; first | omega | contradiction)) | (refine svc (fun hc => ?_) (fun hc => ?_) <;> try (exfalso; first | omega | contradiction)) | refine sv2 ?_ | refine svh (fun hb => ?_) (fun hb => ?_) | refine svb (fun b => ?_) | refine sva ?_ | refine sv3 ?_))
    refine S.call ?_; refine (awake_c _).mono ?_; rintro r h' ⟨rfl, hh⟩; subst hh
    (repeat' (first | (refine iS ?_; refine iMu ?_; refine S.mapU ?_) | refine svz ⟨fun b hq => ?_⟩ | refine sv1 ?_ | refine svs ⟨?_⟩ | refine svu ⟨fun u => ?_⟩ | (refine svg (fun hg => ?_) (fun hg => ?_) <;> try (exfalso; first | omega | contradiction)) | (refine svc (fun hc => ?_) (fun hc => ?_) <;> try (exfalso; first | omega | contradiction)) | refine sv2 ?_ | refine svh (fun hb => ?_) (fun hb => ?_) | refine svb (fun b => ?_) | refine sva ?_ | refine sv3 ?_))
    exact fin_r (h' := _) rfl
  by_cases hl0 : l.length < 3
  · refine ACalls.intro Try.func6 rfl Try.ntmps6 Try.results6 (Nat.le_of_ble_eq_true rfl) ?_
    (repeat' (first | (refine iS ?_; refine iMu ?_; refine S.mapU ?_) | refine svz ⟨fun b hq => ?_⟩ | refine sv1 ?_ | refine svs ⟨?_⟩ | refine svu ⟨fun u => ?_⟩ | (refine svg (fun hg => ?_) (fun hg => ?_) <;> try (exfalso; first | omega | contradiction)) | (refine svc (fun hc => ?_) (fun hc => ?_) <;> try (exfalso; first | omega | contradiction)) | refine sv2 ?_ | refine svh (fun hb => ?_) (fun hb => ?_) | refine svb (fun b => ?_) | refine sva ?_ | refine sv3 ?_))
    refine S.call ?_; refine (awake_c _).mono ?_; rintro r h' ⟨rfl, hh⟩; subst hh
    (repeat' (first | (refine iS ?_; refine iMu ?_; refine S.mapU ?_) | refine svz ⟨fun b hq => ?_⟩ | refine sv1 ?_ | refine svs ⟨?_⟩ | refine svu ⟨fun u => ?_⟩ | (refine svg (fun hg => ?_) (fun hg => ?_) <;> try (exfalso; first | omega | contradiction)) | (refine svc (fun hc => ?_) (fun hc => ?_) <;> try (exfalso; first | omega | contradiction)) | refine sv2 ?_ | refine svh (fun hb => ?_) (fun hb => ?_) | refine svb (fun b => ?_) | refine sva ?_ | refine sv3 ?_))
    exact fin_r (h' := _) rfl
  have p1 := fun h => points_c l h (by omega) ok
  have hq := qp_near ok
  have hpl : (l.map QP.pt).length = l.length := List.length_map ..
  refine ACalls.intro Try.func6 rfl Try.ntmps6 Try.results6 (Nat.le_of_ble_eq_true rfl) ?_
  (repeat' (first | (refine iS ?_; refine iMu ?_; refine S.mapU ?_) | refine svz ⟨fun b hq => ?_⟩ | refine sv1 ?_ | refine svs ⟨?_⟩ | refine svu ⟨fun u => ?_⟩ | (refine svg (fun hg => ?_) (fun hg => ?_) <;> try (exfalso; first | omega | contradiction)) | (refine svc (fun hc => ?_) (fun hc => ?_) <;> try (exfalso; first | omega | contradiction)) | refine sv2 ?_ | refine svh (fun hb => ?_) (fun hb => ?_) | refine svb (fun b => ?_) | refine sva ?_ | refine sv3 ?_))
  rename_i b4 _ _
  revert b; intro b5
  generalize l.map QP.pt = P at *
  refine S.call ?_; refine (p1 _).mono ?_; rintro r h' ⟨rfl, hh⟩; subst hh
  (repeat' (first | (refine iS ?_; refine iMu ?_; refine S.mapU ?_) | refine svz ⟨fun b hq => ?_⟩ | refine sv1 ?_ | refine svs ⟨?_⟩ | refine svu ⟨fun u => ?_⟩ | (refine svg (fun hg => ?_) (fun hg => ?_) <;> try (exfalso; first | omega | contradiction)) | (refine svc (fun hc => ?_) (fun hc => ?_) <;> try (exfalso; first | omega | contradiction)) | refine sv2 ?_ | refine svh (fun hb => ?_) (fun hb => ?_) | refine svb (fun b => ?_) | refine sva ?_ | refine sv3 ?_))
  refine R2.T (v := .val (.pointer (some ⟨b4, 0, none⟩))) ?_ (hp := .l rfl (pur_index_arr (n := 2) (k := 1) (j := 0) rfl rfl rfl (by decide)).pur)
  (repeat' (first | (refine iS ?_; refine iMu ?_; refine S.mapU ?_) | refine svz ⟨fun b hq => ?_⟩ | refine sv1 ?_ | refine svs ⟨?_⟩ | refine svu ⟨fun u => ?_⟩ | (refine svg (fun hg => ?_) (fun hg => ?_) <;> try (exfalso; first | omega | contradiction)) | (refine svc (fun hc => ?_) (fun hc => ?_) <;> try (exfalso; first | omega | contradiction)) | refine sv2 ?_ | refine svh (fun hb => ?_) (fun hb => ?_) | refine svb (fun b => ?_) | refine sva ?_ | refine sv3 ?_))
  refine R2.T (v := .val (.pointer (some ⟨b4, 1, none⟩))) ?_ (hp := .l rfl (pur_index_arr (n := 2) (k := 1) (j := 1) rfl rfl rfl (by decide)).pur)
  (repeat' (first | (refine iS ?_; refine iMu ?_; refine S.mapU ?_) | refine svz ⟨fun b hq => ?_⟩ | refine sv1 ?_ | refine svs ⟨?_⟩ | refine svu ⟨fun u => ?_⟩ | (refine svg (fun hg => ?_) (fun hg => ?_) <;> try (exfalso; first | omega | contradiction)) | (refine svc (fun hc => ?_) (fun hc => ?_) <;> try (exfalso; first | omega | contradiction)) | refine sv2 ?_ | refine svh (fun hb => ?_) (fun hb => ?_) | refine svb (fun b => ?_)))
  rw [show ((c : Int) % (P.length : Int)) = ((c % P.length : Nat) : Int) from rfl, show ((d : Int) % (P.length : Int)) = ((d % P.length : Nat) : Int) from rfl]
  have hcm : c % P.length < P.length := Nat.mod_lt _ (by omega)
  have hdm : d % P.length < P.length := Nat.mod_lt _ (by omega)
  generalize c % P.length = i0 at *
  generalize d % P.length = k0 at *
  refine W.mid (J := fun q : Nat × Nat => ⟨110, [(9, .val (.int .i64 (q.2))), (8, .val (.int .i64 (q.1))), (7, .ro 2 (P.map PT.enc)), (5, .val (.pointer (some ⟨b5, 0, none⟩)))], .box b5 [.val (.int .i8 x), .val (.int .i8 y)] 46 :: []⟩) (Φ := fun q => q.1 ≤ q.2 ∧ q.2 < P.length) ?_ ?_
  · (repeat' (first | (refine iS ?_; refine iMu ?_; refine S.mapU ?_) | refine svz ⟨fun b hq => ?_⟩ | refine sv1 ?_ | refine svs ⟨?_⟩ | refine svu ⟨fun u => ?_⟩ | (refine svg (fun hg => ?_) (fun hg => ?_) <;> try (exfalso; first | omega | contradiction)) | (refine svc (fun hc => ?_) (fun hc => ?_) <;> try (exfalso; first | omega | contradiction)) | refine sv2 ?_ | refine svh (fun hb => ?_) (fun hb => ?_) | refine svb (fun b => ?_) | refine sva ?_ | refine sv3 ?_))
    · exact ⟨(k0, i0), ⟨by dsimp only; omega, hcm⟩, ⟨rfl, (by repeat (first | exact LeT.nil | refine LeT.cons rfl ?_ | refine LeT.consw rfl (by (repeat (first | exact Wk.refl _ | exact Wk.nilr _ | exact Wk.nilm | apply Wk.aggc | apply Wk.tupc | exact Wk.aggn | exact Wk.tupn)); first | done | fail) ?_)), (by repeat (first | exact LeH.refl _ | exact LeH.nil _ | refine LeH.cons (by (fail_if_success (apply tkG)); (repeat (first | exact Tk.here | apply Tk.there)); first | done | fail) ?_ | refine LeH.boxw (by (fail_if_success (apply tkG)); (repeat (first | exact Tk.here | apply Tk.there)); first | done | fail) (by (repeat (first | exact Wk.refl _ | exact Wk.nilr _ | exact Wk.nilm | apply Wk.aggc | apply Wk.tupc | exact Wk.aggn | exact Wk.tupn)); first | done | fail) ?_ | refine LeH.skip ?_))⟩⟩
    · exact ⟨(i0, k0), ⟨by dsimp only; omega, hdm⟩, ⟨rfl, (by repeat (first | exact LeT.nil | refine LeT.cons rfl ?_ | refine LeT.consw rfl (by (repeat (first | exact Wk.refl _ | exact Wk.nilr _ | exact Wk.nilm | apply Wk.aggc | apply Wk.tupc | exact Wk.aggn | exact Wk.tupn)); first | done | fail) ?_)), (by repeat (first | exact LeH.refl _ | exact LeH.nil _ | refine LeH.cons (by (fail_if_success (apply tkG)); (repeat (first | exact Tk.here | apply Tk.there)); first | done | fail) ?_ | refine LeH.boxw (by (fail_if_success (apply tkG)); (repeat (first | exact Tk.here | apply Tk.there)); first | done | fail) (by (repeat (first | exact Wk.refl _ | exact Wk.nilr _ | exact Wk.nilm | apply Wk.aggc | apply Wk.tupc | exact Wk.aggn | exact Wk.tupn)); first | done | fail) ?_ | refine LeH.skip ?_))⟩⟩
  rintro ⟨i, k⟩ ⟨hik, hk⟩
  dsimp only at hik hk ⊢
  (repeat' (first | (refine iS ?_; refine iMu ?_; refine S.mapU ?_) | refine svz ⟨fun b hq => ?_⟩ | refine sv1 ?_ | refine svs ⟨?_⟩ | refine svu ⟨fun u => ?_⟩ | (refine svg (fun hg => ?_) (fun hg => ?_) <;> try (exfalso; first | omega | contradiction)) | (refine svc (fun hc => ?_) (fun hc => ?_) <;> try (exfalso; first | omega | contradiction)) | refine sv2 ?_ | refine svh (fun hb => ?_) (fun hb => ?_) | refine svb (fun b => ?_) | refine sva ?_ | refine sv3 ?_))
  refine R2.T (v := .val (.pointer (some ⟨b5, 0, none⟩))) ?_ (hp := .l rfl (pur_index_arr (n := 2) (k := 1) (j := 0) rfl rfl rfl (by decide)).pur)
  (repeat' (first | (refine iS ?_; refine iMu ?_; refine S.mapU ?_) | refine svz ⟨fun b hq => ?_⟩ | refine sv1 ?_ | refine svs ⟨?_⟩ | refine svu ⟨fun u => ?_⟩ | (refine svg (fun hg => ?_) (fun hg => ?_) <;> try (exfalso; first | omega | contradiction)) | (refine svc (fun hc => ?_) (fun hc => ?_) <;> try (exfalso; first | omega | contradiction)) | refine sv2 ?_ | refine svh (fun hb => ?_) (fun hb => ?_) | refine svb (fun b => ?_) | refine sva ?_ | refine sv3 ?_))
  refine R2.T (v := .val (.pointer (some ⟨b5, 1, none⟩))) ?_ (hp := .l rfl (pur_index_arr (n := 2) (k := 1) (j := 1) rfl rfl rfl (by decide)).pur)
  (repeat' (first | (refine iS ?_; refine iMu ?_; refine S.mapU ?_) | refine svz ⟨fun b hq => ?_⟩ | refine sv1 ?_ | refine svs ⟨?_⟩ | refine svu ⟨fun u => ?_⟩ | (refine svg (fun hg => ?_) (fun hg => ?_) <;> try (exfalso; first | omega | contradiction)) | (refine svc (fun hc => ?_) (fun hc => ?_) <;> try (exfalso; first | omega | contradiction)) | refine sv2 ?_ | refine svh (fun hb => ?_) (fun hb => ?_) | refine svb (fun b => ?_) | refine sva ?_ | refine sv3 ?_))
  refine R2.congr (todo' := [0, 4, 9, 10]) (fun x => by simp only [List.mem_cons, List.not_mem_nil, or_false]; omega) ?_
  (repeat' (first | (refine iS ?_; refine iMu ?_; refine S.mapU ?_) | refine svz ⟨fun b hq => ?_⟩ | refine sv1 ?_ | refine svs ⟨?_⟩ | refine svu ⟨fun u => ?_⟩ | (refine svg (fun hg => ?_) (fun hg => ?_) <;> try (exfalso; first | omega | contradiction)) | (refine svc (fun hc => ?_) (fun hc => ?_) <;> try (exfalso; first | omega | contradiction)) | refine sv2 ?_ | refine svh (fun hb => ?_) (fun hb => ?_) | refine svb (fun b => ?_) | refine sva ?_ | refine sv3 ?_))
  rename_i z1 z2 z3 z4
  have e1 : [] ++ List.take (k + 1 - i) (List.drop i (P.map PT.enc)) = (oneP P i k).map PT.enc := by unfold oneP; rw [List.map_take, List.map_drop]; rfl
  have e2 : [] ++ List.take ((P.map PT.enc).length - k) (List.drop k (P.map PT.enc)) ++ List.take (i + 1 - 0) (List.drop 0 (P.map PT.enc)) = (twoP P i k).map PT.enc := by
    unfold twoP
    rw [List.map_append, List.map_take, List.map_drop, List.nil_append, List.take_of_length_le (by rw [List.length_drop]; omega)]; rfl
  rw [e1, e2]
  refine Step.le (s' := ⟨110, [(68, .val z2), (67, .val (.int .i64 (y))), (66, .val (.int .i64 (x))), (13, .val u), (12, .val z2), (11, .val (.int .i64 (y))), (10, .val (.int .i64 (x))), (7, .ro 2 (P.map PT.enc))], [.own z2 2 ((oneP P i k).map PT.enc) 23, .own u 2 ((twoP P i k).map PT.enc) 23]⟩) ⟨rfl, (by repeat (first | exact LeT.nil | refine LeT.cons rfl ?_ | refine LeT.consw rfl (by (repeat (first | exact Wk.refl _ | exact Wk.nilr _ | exact Wk.nilm | apply Wk.aggc | apply Wk.tupc | exact Wk.aggn | exact Wk.tupn)); first | done | fail) ?_)), (by repeat (first | exact LeH.refl _ | exact LeH.nil _ | refine LeH.cons (by (fail_if_success (apply tkG)); (repeat (first | exact Tk.here | apply Tk.there)); first | done | fail) ?_ | refine LeH.boxw (by (fail_if_success (apply tkG)); (repeat (first | exact Tk.here | apply Tk.there)); first | done | fail) (by (repeat (first | exact Wk.refl _ | exact Wk.nilr _ | exact Wk.nilm | apply Wk.aggc | apply Wk.tupc | exact Wk.aggn | exact Wk.tupn)); first | done | fail) ?_ | refine LeH.skip ?_))⟩ ?_
  refine Step.frz (v := z2) (by (fail_if_success (apply tkG)); (repeat (first | exact Tk.here | apply Tk.there)); first | done | fail) (by repeat' (first | apply FrzT.cons | exact FrzT.rest _ | exact Frz.hit | apply Frz.aggc | apply Frz.tupc | exact Frz.aggn | exact Frz.tupn | exact Frz.keep _)) (by repeat' (first | apply FrzH.box | apply FrzH.keep | exact FrzH.rest _ | exact Frz.hit | apply Frz.aggc | apply Frz.tupc | exact Frz.aggn | exact Frz.tupn | exact Frz.keep _)) ?_
  refine Step.frz (v := u) (by (fail_if_success (apply tkG)); (repeat (first | exact Tk.here | apply Tk.there)); first | done | fail) (by repeat' (first | apply FrzT.cons | exact FrzT.rest _ | exact Frz.hit | apply Frz.aggc | apply Frz.tupc | exact Frz.aggn | exact Frz.tupn | exact Frz.keep _)) (by repeat' (first | apply FrzH.box | apply FrzH.keep | exact FrzH.rest _ | exact Frz.hit | apply Frz.aggc | apply Frz.tupc | exact Frz.aggn | exact Frz.tupn | exact Frz.keep _)) ?_
  have hnr : ∀ p ∈ P, p.near := near_of hq (by omega) (by omega)
  have hn1 : ∀ p ∈ oneP P i k, p.near := fun p hp => hnr p (one_mem hp)
  have hn2 : ∀ p ∈ twoP P i k, p.near := fun p hp => hnr p (two_mem hp)
  have hl1 : (oneP P i k).length ≤ 256 := Nat.le_trans one_len (by omega)
  have hl2 : (twoP P i k).length ≤ 256 := Nat.le_trans (two_len hik hk) (by omega)
  have hnx : nearI x := by unfold nearI; omega
  have hny : nearI y := by unfold nearI; omega
  have tA := fun h => turns_c P x y h
  have tB := fun h => turns_c (oneP P i k) x y h
  have tC := fun h => turns_c (twoP P i k) x y h
  have wA := fun h => twice_c P h
  have wB := fun h => twice_c (oneP P i k) h
  have wC := fun h => twice_c (twoP P i k) h
  have iA := fun h => pinside_c 0 x y P h
  have iB := fun h => pinside_c 0 x y (oneP P i k) h
  have iC := fun h => pinside_c 0 x y (twoP P i k) h
  have k1 : turnsX (oneP P i k) x y + turnsX (twoP P i k) x y = turnsX P x y := by
    rw [turnsX_eq hnr (by omega) hnx hny, turnsX_eq hn1 hl1 hnx hny, turnsX_eq hn2 hl2 hnx hny]
    exact cut_cyc (fun a b => trE_anti a b x y) hik hk
  have k2 : twiceX (oneP P i k) + twiceX (twoP P i k) = twiceX P := by
    rw [twiceX_eq hnr (by omega), twiceX_eq hn1 hl1, twiceX_eq hn2 hl2]
    exact cut_cyc tw_anti hik hk
  have k3 : (insideX 0 x y (oneP P i k) != insideX 0 x y (twoP P i k)) = insideX 0 x y P := by
    have : ∀ l, insideX 0 x y l = insF 0 (turnsX l x y) := fun l => rfl
    rw [this, this, this, ← k1]
    exact odd_add _ _
  have tb : ∀ l : List PT, -256 ≤ turnsX l x y ∧ turnsX l x y ≤ 256 := fun l => by
    unfold turnsX
    split
    · rename_i h
      have := turns_bd l l.length x y
      rw [show (edgesP l).take l.length = edgesP l from List.take_of_length_le (by rw [edges_len]; exact Nat.le_refl _)] at this
      have := rightF_len h.1
      show -256 ≤ turnsF l x y ∧ turnsF l x y ≤ 256
      unfold turnsF; omega
    · omega
  have wb : ∀ l : List PT, -1000000000000000 ≤ twiceX l ∧ twiceX l ≤ 1000000000000000 := fun l => by
    unfold twiceX
    split
    · rename_i h
      have hn := rightF_near h
      have := sumF_bd (f := fun e : PT × PT => e.1.x * e.2.y - e.2.x * e.1.y) (B := 2199023255552) (by omega) (l := edgesP l) fun e he => tw_bd (hn _ (edges_mem he).1) (hn _ (edges_mem he).2)
      rw [edges_len] at this
      have := rightF_len h
      show -1000000000000000 ≤ twiceF l ∧ twiceF l ≤ 1000000000000000
      unfold twiceF; omega
    · omega
  have tb1 := tb (oneP P i k)
  have tb2 := tb (twoP P i k)
  have wb1 := wb (oneP P i k)
  have wb2 := wb (twoP P i k)
  clear tb wb hn1 hn2 hnr hq hnx hny e1 e2 p1
  rw [← k1] at tA
  rw [← k2] at wA
  have k4 : insideX 0 x y P = decide (insideX 0 x y (oneP P i k) ≠ insideX 0 x y (twoP P i k)) := by rw [← k3]; cases insideX 0 x y (oneP P i k) <;> cases insideX 0 x y (twoP P i k) <;> rfl
  rw [k4] at iA
  generalize turnsX (oneP P i k) x y = t1 at *
  generalize turnsX (twoP P i k) x y = t2 at *
  generalize twiceX (oneP P i k) = w1 at *
  generalize twiceX (twoP P i k) = w2 at *
  generalize insideX 0 x y (oneP P i k) = u1 at *
  generalize insideX 0 x y (twoP P i k) = u2 at *
  generalize oneP P i k = A at *
  generalize twoP P i k = B at *
  clear k1 k2 k3 k4 hl1 hl2
  refine S.call ?_; refine (iB _).mono ?_; rintro r h' ⟨rfl, hh⟩; subst hh
  (repeat' (first | (refine iS ?_; refine iMu ?_; refine S.mapU ?_) | refine svz ⟨fun b hq => ?_⟩ | refine sv1 ?_ | refine svs ⟨?_⟩ | refine svu ⟨fun u => ?_⟩ | (refine svg (fun hg => ?_) (fun hg => ?_) <;> try (exfalso; first | omega | contradiction)) | (refine svc (fun hc => ?_) (fun hc => ?_) <;> try (exfalso; first | omega | contradiction)) | refine sv2 ?_ | refine svh (fun hb => ?_) (fun hb => ?_) | refine svb (fun b => ?_) | refine sva ?_ | refine sv3 ?_))
  refine S.call ?_; refine (iC _).mono ?_; rintro r h' ⟨rfl, hh⟩; subst hh
  (repeat' (first | (refine iS ?_; refine iMu ?_; refine S.mapU ?_) | refine svz ⟨fun b hq => ?_⟩ | refine sv1 ?_ | refine svs ⟨?_⟩ | refine svu ⟨fun u => ?_⟩ | (refine svg (fun hg => ?_) (fun hg => ?_) <;> try (exfalso; first | omega | contradiction)) | (refine svc (fun hc => ?_) (fun hc => ?_) <;> try (exfalso; first | omega | contradiction)) | refine sv2 ?_ | refine svh (fun hb => ?_) (fun hb => ?_) | refine svb (fun b => ?_) | refine sva ?_ | refine sv3 ?_))
  refine S.call ?_; refine (tB _).mono ?_; rintro r h' ⟨rfl, hh⟩; subst hh
  (repeat' (first | (refine iS ?_; refine iMu ?_; refine S.mapU ?_) | refine svz ⟨fun b hq => ?_⟩ | refine sv1 ?_ | refine svs ⟨?_⟩ | refine svu ⟨fun u => ?_⟩ | (refine svg (fun hg => ?_) (fun hg => ?_) <;> try (exfalso; first | omega | contradiction)) | (refine svc (fun hc => ?_) (fun hc => ?_) <;> try (exfalso; first | omega | contradiction)) | refine sv2 ?_ | refine svh (fun hb => ?_) (fun hb => ?_) | refine svb (fun b => ?_) | refine sva ?_ | refine sv3 ?_))
  refine S.call ?_; refine (tC _).mono ?_; rintro r h' ⟨rfl, hh⟩; subst hh
  (repeat' (first | (refine iS ?_; refine iMu ?_; refine S.mapU ?_) | refine svz ⟨fun b hq => ?_⟩ | refine sv1 ?_ | refine svs ⟨?_⟩ | refine svu ⟨fun u => ?_⟩ | (refine svg (fun hg => ?_) (fun hg => ?_) <;> try (exfalso; first | omega | contradiction)) | (refine svc (fun hc => ?_) (fun hc => ?_) <;> try (exfalso; first | omega | contradiction)) | refine sv2 ?_ | refine svh (fun hb => ?_) (fun hb => ?_) | refine svb (fun b => ?_) | refine sva ?_ | refine sv3 ?_))
  refine S.call ?_; refine (tA _).mono ?_; rintro r h' ⟨rfl, hh⟩; subst hh
  (repeat' (first | (refine iS ?_; refine iMu ?_; refine S.mapU ?_) | refine svz ⟨fun b hq => ?_⟩ | refine sv1 ?_ | refine svs ⟨?_⟩ | refine svu ⟨fun u => ?_⟩ | (refine svg (fun hg => ?_) (fun hg => ?_) <;> try (exfalso; first | omega | contradiction)) | (refine svc (fun hc => ?_) (fun hc => ?_) <;> try (exfalso; first | omega | contradiction)) | refine sv2 ?_ | refine svh (fun hb => ?_) (fun hb => ?_) | refine svb (fun b => ?_) | refine sva ?_ | refine sv3 ?_))
  refine S.call ?_; refine (iA _).mono ?_; rintro r h' ⟨rfl, hh⟩; subst hh
  (repeat' (first | (refine iS ?_; refine iMu ?_; refine S.mapU ?_) | refine svz ⟨fun b hq => ?_⟩ | refine sv1 ?_ | refine svs ⟨?_⟩ | refine svu ⟨fun u => ?_⟩ | (refine svg (fun hg => ?_) (fun hg => ?_) <;> try (exfalso; first | omega | contradiction)) | (refine svc (fun hc => ?_) (fun hc => ?_) <;> try (exfalso; first | omega | contradiction)) | refine sv2 ?_ | refine svh (fun hb => ?_) (fun hb => ?_) | refine svb (fun b => ?_) | refine sva ?_ | refine sv3 ?_))
  refine S.call ?_; refine (wB _).mono ?_; rintro r h' ⟨rfl, hh⟩; subst hh
  (repeat' (first | (refine iS ?_; refine iMu ?_; refine S.mapU ?_) | refine svz ⟨fun b hq => ?_⟩ | refine sv1 ?_ | refine svs ⟨?_⟩ | refine svu ⟨fun u => ?_⟩ | (refine svg (fun hg => ?_) (fun hg => ?_) <;> try (exfalso; first | omega | contradiction)) | (refine svc (fun hc => ?_) (fun hc => ?_) <;> try (exfalso; first | omega | contradiction)) | refine sv2 ?_ | refine svh (fun hb => ?_) (fun hb => ?_) | refine svb (fun b => ?_) | refine sva ?_ | refine sv3 ?_))
  refine S.call ?_; refine (wC _).mono ?_; rintro r h' ⟨rfl, hh⟩; subst hh
  (repeat' (first | (refine iS ?_; refine iMu ?_; refine S.mapU ?_) | refine svz ⟨fun b hq => ?_⟩ | refine sv1 ?_ | refine svs ⟨?_⟩ | refine svu ⟨fun u => ?_⟩ | (refine svg (fun hg => ?_) (fun hg => ?_) <;> try (exfalso; first | omega | contradiction)) | (refine svc (fun hc => ?_) (fun hc => ?_) <;> try (exfalso; first | omega | contradiction)) | refine sv2 ?_ | refine svh (fun hb => ?_) (fun hb => ?_) | refine svb (fun b => ?_) | refine sva ?_ | refine sv3 ?_))
  refine S.call ?_; refine (wA _).mono ?_; rintro r h' ⟨rfl, hh⟩; subst hh
  (repeat' (first | (refine iS ?_; refine iMu ?_; refine S.mapU ?_) | refine svz ⟨fun b hq => ?_⟩ | refine sv1 ?_ | refine svs ⟨?_⟩ | refine svu ⟨fun u => ?_⟩ | (refine svg (fun hg => ?_) (fun hg => ?_) <;> try (exfalso; first | omega | contradiction)) | (refine svc (fun hc => ?_) (fun hc => ?_) <;> try (exfalso; first | omega | contradiction)) | refine sv2 ?_ | refine svh (fun hb => ?_) (fun hb => ?_) | refine svb (fun b => ?_) | refine sva ?_ | refine sv3 ?_))
  refine S.call ?_; refine (awake_c _).mono ?_; rintro r h' ⟨rfl, hh⟩; subst hh
  (repeat' (first | (refine iS ?_; refine iMu ?_; refine S.mapU ?_) | refine svz ⟨fun b hq => ?_⟩ | refine sv1 ?_ | refine svs ⟨?_⟩ | refine svu ⟨fun u => ?_⟩ | (refine svg (fun hg => ?_) (fun hg => ?_) <;> try (exfalso; first | omega | contradiction)) | (refine svc (fun hc => ?_) (fun hc => ?_) <;> try (exfalso; first | omega | contradiction)) | refine sv2 ?_ | refine svh (fun hb => ?_) (fun hb => ?_) | refine svb (fun b => ?_) | refine sva ?_ | refine sv3 ?_))
  exact fin_r (h' := _) rfl
theorem shares_row : ∀ l, FitAll maxLen [.sl 2 (.fld 1 (.int .i8) (.fld 1 (.int .i8) (.nil))), .fld 1 (.int .u8) (.fld 1 (.int .u8) (.nil)), .fld 1 (.int .i8) (.fld 1 (.int .i8) (.nil))] l → ACalls Try.prog 6 l [] (fun r h' => r = .val (.bool true)) := by
  rintro l ⟨x, _, rfl, hx, y, _, rfl, hy, z, _, rfl, hz, rfl⟩
  obtain ⟨ls, rfl, _, hl⟩ := fit_sl (f := QP.enc) hx (fun y hy => qp_fit hy)
  obtain ⟨_, rfl, _, _, rfl, _, ⟨a, rfl, ha⟩, _, _, rfl, _, ⟨b, rfl, hb⟩, rfl⟩ := hy
  obtain ⟨q, rfl, hq⟩ := qp_fit hz
  have ha := wf_u8 ha
  have hb := wf_u8 hb
  have := shares_c ls a.toNat b.toNat q.a q.b hl (by omega) (by omega) hq.1 hq.2
  rwa [show ((a.toNat : Nat) : Int) = a by omega, show ((b.toNat : Nat) : Int) = b by omega] at this
end Go.Proofs.Ytkeclfcjmdhcfaa
