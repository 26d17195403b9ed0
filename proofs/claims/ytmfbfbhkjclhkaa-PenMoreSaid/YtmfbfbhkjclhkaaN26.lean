/- PenMore. No condition. -/
import Derived.Test.YtmfbfbhkjclhkaaN25
import Derived.Test.YtmfbfbhkjclhkaaN17
import Derived.Test.YtmfbfbhkjclhkaaVM33
namespace Go.Proofs.Ytmfbfbhkjclhkaa
open Go Go.VM
attribute [local irreducible] PurV Pur Step RL W D ACalls Then InBlock Fini
set_option linter.unusedVariables false
set_option linter.unusedSimpArgs false
set_option maxHeartbeats 20000000
theorem getD_o {l : List Int} {i : Nat} {a : Int} (h : l[i]? = some a) : l.getD i 0 = a := by rw [List.getD_eq_getElem?_getD, h]; rfl
set_option maxRecDepth 100000 in
theorem more_c (x y : Int) (l m : List Int) (hx : -128 ≤ x ∧ x ≤ 127) (hy : -128 ≤ y ∧ y ≤ 127) (rl : ∀ n ∈ l, -128 ≤ n ∧ n ≤ 127) (rm : ∀ n ∈ m, -128 ≤ n ∧ n ≤ 127) (hll : l.length ≤ maxLen) (hlm : m.length ≤ maxLen) :
    ACalls Try.prog 6 [.val (.int .i8 (x)), .val (.int .i8 (y)), .ro 1 (ints .i8 l), .ro 1 (ints .i8 m)] [] (fun r h' => r = .val (.bool true)) := by
  unfold maxLen at hll hlm
  by_cases c1 : 100 < l.length
  · refine ACalls.intro Try.func6 rfl Try.ntmps6 Try.results6 (Nat.le_of_ble_eq_true rfl) ?_
    (repeat' (first | (refine iS ?_; refine iMu ?_; refine S.mapU ?_) | refine svz ⟨fun b hq => ?_⟩ | refine sv1 ?_ | refine svs ⟨?_⟩ | refine svu ⟨fun u => ?_⟩ | (refine svg (fun hg => ?_) (fun hg => ?_) <;> try (exfalso; first | omega | contradiction)) | (refine svc (fun hc => ?_) (fun hc => ?_) <;> try (exfalso; first | omega | contradiction)) | refine sv2 ?_ | refine svh (fun hb => ?_) (fun hb => ?_) | refine svb (fun b => ?_) | refine sva ?_ | refine sv3 ?_))
    refine S.call ?_; refine (awake_c _).mono ?_; rintro r h' ⟨rfl, hh⟩; subst hh
    (repeat' (first | (refine iS ?_; refine iMu ?_; refine S.mapU ?_) | refine svz ⟨fun b hq => ?_⟩ | refine sv1 ?_ | refine svs ⟨?_⟩ | refine svu ⟨fun u => ?_⟩ | (refine svg (fun hg => ?_) (fun hg => ?_) <;> try (exfalso; first | omega | contradiction)) | (refine svc (fun hc => ?_) (fun hc => ?_) <;> try (exfalso; first | omega | contradiction)) | refine sv2 ?_ | refine svh (fun hb => ?_) (fun hb => ?_) | refine svb (fun b => ?_) | refine sva ?_ | refine sv3 ?_))
    exact fin_r (h' := _) rfl
  by_cases c2 : 100 < m.length
  · refine ACalls.intro Try.func6 rfl Try.ntmps6 Try.results6 (Nat.le_of_ble_eq_true rfl) ?_
    (repeat' (first | (refine iS ?_; refine iMu ?_; refine S.mapU ?_) | refine svz ⟨fun b hq => ?_⟩ | refine sv1 ?_ | refine svs ⟨?_⟩ | refine svu ⟨fun u => ?_⟩ | (refine svg (fun hg => ?_) (fun hg => ?_) <;> try (exfalso; first | omega | contradiction)) | (refine svc (fun hc => ?_) (fun hc => ?_) <;> try (exfalso; first | omega | contradiction)) | refine sv2 ?_ | refine svh (fun hb => ?_) (fun hb => ?_) | refine svb (fun b => ?_) | refine sva ?_ | refine sv3 ?_))
    refine S.call ?_; refine (awake_c _).mono ?_; rintro r h' ⟨rfl, hh⟩; subst hh
    (repeat' (first | (refine iS ?_; refine iMu ?_; refine S.mapU ?_) | refine svz ⟨fun b hq => ?_⟩ | refine sv1 ?_ | refine svs ⟨?_⟩ | refine svu ⟨fun u => ?_⟩ | (refine svg (fun hg => ?_) (fun hg => ?_) <;> try (exfalso; first | omega | contradiction)) | (refine svc (fun hc => ?_) (fun hc => ?_) <;> try (exfalso; first | omega | contradiction)) | refine sv2 ?_ | refine svh (fun hb => ?_) (fun hb => ?_) | refine svb (fun b => ?_) | refine sva ?_ | refine sv3 ?_))
    exact fin_r (h' := _) rfl
  refine ACalls.intro Try.func6 rfl Try.ntmps6 Try.results6 (Nat.le_of_ble_eq_true rfl) ?_
  (repeat' (first | (refine iS ?_; refine iMu ?_; refine S.mapU ?_) | refine svz ⟨fun b hq => ?_⟩ | refine sv1 ?_ | refine svs ⟨?_⟩ | refine svu ⟨fun u => ?_⟩ | (refine svg (fun hg => ?_) (fun hg => ?_) <;> try (exfalso; first | omega | contradiction)) | (refine svc (fun hc => ?_) (fun hc => ?_) <;> try (exfalso; first | omega | contradiction)) | refine sv2 ?_ | refine svh (fun hb => ?_) (fun hb => ?_) | refine svb (fun b => ?_) | refine sva ?_ | refine sv3 ?_))
  refine W.nil_ 1 2 ?_
  refine W.loop (J := fun z : Nat × Value => ⟨161, [(11, .val (.int .i64 ((4 * z.1 : Nat)))), (9, .val z.2), (10, .val (.slice none 0 0)), (8, .val (.bool false)), (0, .val (.int .i8 (x))), (1, .val (.int .i8 (y))), (2, .ro 1 (ints .i8 l)), (3, .ro 1 (ints .i8 m))], [.own z.2 1 (ints .i64 (pqF l z.1)) 2]⟩)
    (Φ := fun z => z.1 ≤ l.length / 4) (μ := fun z => l.length / 4 - z.1) (0, .slice none 0 0) lee (Nat.zero_le _) ?_
  rintro ⟨i, v⟩ hi
  dsimp only at hi ⊢
  rcases Nat.lt_or_ge i (l.length / 4) with hlt | hge
  · obtain ⟨a, e, c, d, ha, he, hc, hd, _⟩ := quad_at (l := l) (i := i) (by omega)
    have ra := rl a (List.mem_of_getElem? ha)
    have re := rl e (List.mem_of_getElem? he)
    have rc := rl c (List.mem_of_getElem? hc)
    have rd := rl d (List.mem_of_getElem? hd)
    have stp : ints .i64 (pqF l (i + 1)) = ints .i64 (pqF l i) ++ ints .i64 [a, e, max c 0, max d 0] := by
      rw [pq_succ]; unfold fourF; rw [getD_o ha, getD_o he, getD_o hc, getD_o hd]; simp [ints]
    have hl1 := pq_len l i
    have i4 : ((4 * (i + 1) : Nat) : Int) = ((4 * i : Nat) : Int) + 4 := by omega
    have hil : 4 * i + 3 < l.length := by omega
    generalize hX : 4 * i = X at *
    generalize pqF l i = Q0 at *
    have he' : l[((X : Nat) + (1 : Int)).toNat]? = some e := by rw [show ((X : Nat) + (1 : Int)).toNat = X + 1 by omega]; exact he
    have hc' : l[((X : Nat) + (2 : Int)).toNat]? = some c := by rw [show ((X : Nat) + (2 : Int)).toNat = X + 2 by omega]; exact hc
    have hd' : l[((X : Nat) + (3 : Int)).toNat]? = some d := by rw [show ((X : Nat) + (3 : Int)).toNat = X + 3 by omega]; exact hd
    clear hc hd he rl rm
    (repeat' (first | (refine iS ?_; refine iMu ?_; refine S.mapU ?_) | refine svz ⟨fun b hq => ?_⟩ | refine sv1 ?_ | refine svs ⟨?_⟩ | refine svu ⟨fun u => ?_⟩ | (refine svg (fun hg => ?_) (fun hg => ?_) <;> try (exfalso; first | omega | contradiction)) | (refine svc (fun hc => ?_) (fun hc => ?_) <;> try (exfalso; first | omega | contradiction)) | refine sv2 ?_ | refine svh (fun hb => ?_) (fun hb => ?_) | refine svb (fun b => ?_) | refine sva ?_ | refine sv3 ?_))
    refine S.buildr (xs := [.tmp 40, .tmp 46, .tmp 53, .tmp 60]) (vs := ints .i64 [a, e, max c 0, max d 0]) (kd ?_) rfl rfl (by repeat (first | exact Evals.nil | (apply Evals.cons; rfl))) (by simp [ints, AV.cells]) (by repeat (first | exact Ones.nil | refine Ones.cons rfl ?_ | refine Ones.own (by (fail_if_success (apply memG)); repeat (first | exact List.Mem.head _ | assumption | refine List.Mem.tail _ ?_)) ?_)) (by simp [ints]) rfl
    (repeat' (first | (refine iS ?_; refine iMu ?_; refine S.mapU ?_) | refine svz ⟨fun b hq => ?_⟩ | refine sv1 ?_ | refine svs ⟨?_⟩ | refine svu ⟨fun u => ?_⟩ | (refine svg (fun hg => ?_) (fun hg => ?_) <;> try (exfalso; first | omega | contradiction)) | (refine svc (fun hc => ?_) (fun hc => ?_) <;> try (exfalso; first | omega | contradiction)) | refine sv2 ?_ | refine svh (fun hb => ?_) (fun hb => ?_) | refine svb (fun b => ?_) | refine sva ?_ | refine sv3 ?_))
    refine ⟨(i + 1, u), hlt, ?_, by dsimp only; omega⟩
    dsimp only
    rw [i4, stp]
    exact lee
  · have e1 : i = l.length / 4 := by omega
    subst e1
    have hl1 := pq_len l (l.length / 4)
    have hil : ¬ 4 * (l.length / 4) + 3 < l.length := by omega
    have hal : (∀ r ∈ quads (pqF l (l.length / 4)), r.rt) := by
      rw [quads_pq]; intro r hr; obtain ⟨k, _, rfl⟩ := List.mem_map.1 hr; exact rcI_rt rl k
    have ham : (∀ r ∈ quads (pqF m (m.length / 4)), r.rt) := by
      rw [quads_pq]; intro r hr; obtain ⟨k, _, rfl⟩ := List.mem_map.1 hr; exact rcI_rt rm k
    have hlm2 := pq_len m (m.length / 4)
    generalize hA : pqF l (l.length / 4) = A at *
    (repeat' (first | (refine iS ?_; refine iMu ?_; refine S.mapU ?_) | refine svz ⟨fun b hq => ?_⟩ | refine sv1 ?_ | refine svs ⟨?_⟩ | refine svu ⟨fun u => ?_⟩ | (refine svg (fun hg => ?_) (fun hg => ?_) <;> try (exfalso; first | omega | contradiction)) | (refine svc (fun hc => ?_) (fun hc => ?_) <;> try (exfalso; first | omega | contradiction)) | refine sv2 ?_ | refine svh (fun hb => ?_) (fun hb => ?_) | refine svb (fun b => ?_) | refine sva ?_ | refine sv3 ?_))
    refine W.loop (J := fun z : Nat × Value => ⟨161, [(12, .val (.int .i64 ((4 * z.1 : Nat)))), (10, .val z.2), (9, .val v), (8, .val (.bool false)), (0, .val (.int .i8 (x))), (1, .val (.int .i8 (y))), (2, .ro 1 (ints .i8 l)), (3, .ro 1 (ints .i8 m))], [.own z.2 1 (ints .i64 (A ++ pqF m z.1)) 2, .own v 1 (ints .i64 A) 2]⟩)
      (Φ := fun z => z.1 ≤ m.length / 4) (μ := fun z => m.length / 4 - z.1) (0, u) (by rw [show pqF m 0 = [] from rfl, List.append_nil]; exact lee) (Nat.zero_le _) ?_
    rintro ⟨i, w⟩ hi
    dsimp only at hi ⊢
    rcases Nat.lt_or_ge i (m.length / 4) with hlt | hge
    · obtain ⟨a, e, c, d, ha, he, hc, hd, _⟩ := quad_at (l := m) (i := i) (by omega)
      have ra := rm a (List.mem_of_getElem? ha)
      have re := rm e (List.mem_of_getElem? he)
      have rc := rm c (List.mem_of_getElem? hc)
      have rd := rm d (List.mem_of_getElem? hd)
      have stp : ints .i64 (A ++ pqF m (i + 1)) = ints .i64 (A ++ pqF m i) ++ ints .i64 [a, e, max c 0, max d 0] := by
        rw [pq_succ]; unfold fourF; rw [getD_o ha, getD_o he, getD_o hc, getD_o hd]; simp [ints]
      have hl2 : (A ++ pqF m i).length ≤ 300 := by rw [List.length_append, pq_len]; omega
      have i4 : ((4 * (i + 1) : Nat) : Int) = ((4 * i : Nat) : Int) + 4 := by omega
      have hil : 4 * i + 3 < m.length := by omega
      generalize hX : 4 * i = X at *
      generalize A ++ pqF m i = Q0 at *
      have he' : m[((X : Nat) + (1 : Int)).toNat]? = some e := by rw [show ((X : Nat) + (1 : Int)).toNat = X + 1 by omega]; exact he
      have hc' : m[((X : Nat) + (2 : Int)).toNat]? = some c := by rw [show ((X : Nat) + (2 : Int)).toNat = X + 2 by omega]; exact hc
      have hd' : m[((X : Nat) + (3 : Int)).toNat]? = some d := by rw [show ((X : Nat) + (3 : Int)).toNat = X + 3 by omega]; exact hd
      clear hc hd he rl rm hal ham
      (repeat' (first | (refine iS ?_; refine iMu ?_; refine S.mapU ?_) | refine svz ⟨fun b hq => ?_⟩ | refine sv1 ?_ | refine svs ⟨?_⟩ | refine svu ⟨fun u => ?_⟩ | (refine svg (fun hg => ?_) (fun hg => ?_) <;> try (exfalso; first | omega | contradiction)) | (refine svc (fun hc => ?_) (fun hc => ?_) <;> try (exfalso; first | omega | contradiction)) | refine sv2 ?_ | refine svh (fun hb => ?_) (fun hb => ?_) | refine svb (fun b => ?_) | refine sva ?_ | refine sv3 ?_))
      refine S.buildr (xs := [.tmp 78, .tmp 84, .tmp 91, .tmp 98]) (vs := ints .i64 [a, e, max c 0, max d 0]) (kd ?_) rfl rfl (by repeat (first | exact Evals.nil | (apply Evals.cons; rfl))) (by simp [ints, AV.cells]) (by repeat (first | exact Ones.nil | refine Ones.cons rfl ?_ | refine Ones.own (by (fail_if_success (apply memG)); repeat (first | exact List.Mem.head _ | assumption | refine List.Mem.tail _ ?_)) ?_)) (by simp [ints]) rfl
      (repeat' (first | (refine iS ?_; refine iMu ?_; refine S.mapU ?_) | refine svz ⟨fun b hq => ?_⟩ | refine sv1 ?_ | refine svs ⟨?_⟩ | refine svu ⟨fun u => ?_⟩ | (refine svg (fun hg => ?_) (fun hg => ?_) <;> try (exfalso; first | omega | contradiction)) | (refine svc (fun hc => ?_) (fun hc => ?_) <;> try (exfalso; first | omega | contradiction)) | refine sv2 ?_ | refine svh (fun hb => ?_) (fun hb => ?_) | refine svb (fun b => ?_) | refine sva ?_ | refine sv3 ?_))
      refine ⟨(i + 1, u), hlt, ?_, by dsimp only; omega⟩
      dsimp only
      rw [i4, stp]
      exact lee
    · have e1 : i = m.length / 4 := by omega
      subst e1
      have him : ¬ 4 * (m.length / 4) + 3 < m.length := by omega
      have n1 := new_c
      have s1 := fun h => setclip_c newF x y true A h (by decide) (by omega)
      have s2 := fun h => setclip_c newF x y true (A ++ pqF m (m.length / 4)) h (by decide) (by rw [List.length_append]; omega)
      have s3 := fun h => setclip_c newF x y true [] h (by decide) (by decide)
      rw [set_cp hx hy (by omega) (by omega) hal] at s1
      rw [set_cp hx hy (by rw [List.length_append]; omega) (by rw [List.length_append]; omega) (by rw [quads_app _ _ (by omega)]; intro r hr; rcases List.mem_append.1 hr with g | g; exact hal r g; exact ham r g), quads_app _ _ (by omega)] at s2
      rw [set_cp hx hy rfl (by decide) (by intro r hr; cases hr), show quads [] = [] from rfl] at s3
      have hlA : (quads A).length ≤ 256 := by rw [quads_len]; omega
      have hlB : (quads A ++ quads (pqF m (m.length / 4))).length ≤ 256 := by rw [List.length_append, quads_len, quads_len]; omega
      have k1 := chk_cp hx hy hlA hal
      have k2 := chk_cp hx hy hlB (by intro r hr; rcases List.mem_append.1 hr with g | g; exact hal r g; exact ham r g)
      have k3 := chk_cp hx hy (c := []) (by decide) (by intro r hr; cases hr)
      have r1 := fun h => pregion_c (cpP x y (quads A)) 60 60 h (by show (quads A).length ≤ 300; omega) (by decide) (by decide)
      have r2 := fun h => pregion_c (cpP x y (quads A ++ quads (pqF m (m.length / 4)))) 60 60 h (by show (quads A ++ quads (pqF m (m.length / 4))).length ≤ 300; omega) (by decide) (by decide)
      have r3 := fun h => pregion_c (cpP x y []) 60 60 h (Nat.zero_le _) (by decide) (by decide)
      have r4 := fun h => pregion_c newF 60 60 h (by decide) (by decide) (by decide)
      rw [cp_none k3] at r3
      have b1 := regP_bx k1 (w := 60) (g := 60) (n := 60) (by omega) (by omega)
      have b2 := regP_bx k2 (w := 60) (g := 60) (n := 60) (by omega) (by omega)
      have b4 := regP_bx (show chkF newF = 0 by decide) (w := 60) (g := 60) (n := 60) (by omega) (by omega)
      have in1 := fun h => inside_c _ _ h (b1.jok b2 (by omega))
      rw [decide_eq_true (sub_in b1.can b2.can (cp_more k1 k2))] at in1
      have em := fun h => empty_c [] h
      rw [decide_eq_true (show ([] : List RC).length = 0 from rfl)] at em
      have ar := fun h => barea_c (regP newF 60 60) h (by have := b4.len; omega) (fun r hr => (b4.can.cnt r hr).sm)
      rw [new_area] at ar
      have f1 : (cpP x y (quads A)).enc = (cpP x y (quads A)).enc := rfl
      generalize regP (cpP x y (quads A)) 60 60 = G1 at *
      generalize regP (cpP x y (quads A ++ quads (pqF m (m.length / 4)))) 60 60 = G2 at *
      generalize regP newF 60 60 = G4 at *
      clear b1 b2 b4 k1 k2 k3 hlA hlB f1 hal ham
      generalize cpP x y (quads A) = P1 at *
      generalize cpP x y (quads A ++ quads (pqF m (m.length / 4))) = P2 at *
      generalize cpP x y [] = P3 at *
      simp only [pn_enc] at *
      unfold regE at *
      refine W.frz (v := w) (by (fail_if_success (apply tkG)); (repeat (first | exact Tk.here | apply Tk.there)); first | done | fail) (by repeat' (first | apply FrzT.cons | exact FrzT.rest _ | exact Frz.hit | apply Frz.aggc | apply Frz.tupc | exact Frz.aggn | exact Frz.tupn | exact Frz.keep _)) (by repeat' (first | apply FrzH.box | apply FrzH.keep | exact FrzH.rest _ | exact Frz.hit | apply Frz.aggc | apply Frz.tupc | exact Frz.aggn | exact Frz.tupn | exact Frz.keep _)) ?_
      refine W.frz (v := v) (by (fail_if_success (apply tkG)); (repeat (first | exact Tk.here | apply Tk.there)); first | done | fail) (by repeat' (first | apply FrzT.cons | exact FrzT.rest _ | exact Frz.hit | apply Frz.aggc | apply Frz.tupc | exact Frz.aggn | exact Frz.tupn | exact Frz.keep _)) (by repeat' (first | apply FrzH.box | apply FrzH.keep | exact FrzH.rest _ | exact Frz.hit | apply Frz.aggc | apply Frz.tupc | exact Frz.aggn | exact Frz.tupn | exact Frz.keep _)) ?_
      (repeat' (first | (refine iS ?_; refine iMu ?_; refine S.mapU ?_) | refine svz ⟨fun b hq => ?_⟩ | refine sv1 ?_ | refine svs ⟨?_⟩ | refine svu ⟨fun u => ?_⟩ | (refine svg (fun hg => ?_) (fun hg => ?_) <;> try (exfalso; first | omega | contradiction)) | (refine svc (fun hc => ?_) (fun hc => ?_) <;> try (exfalso; first | omega | contradiction)) | refine sv2 ?_ | refine svh (fun hb => ?_) (fun hb => ?_) | refine svb (fun b => ?_) | refine sva ?_ | refine sv3 ?_))
      refine S.call ?_; refine (n1 _).mono ?_; rintro r h' ⟨rfl, hh⟩; subst hh
      (repeat' (first | (refine iS ?_; refine iMu ?_; refine S.mapU ?_) | refine svz ⟨fun b hq => ?_⟩ | refine sv1 ?_ | refine svs ⟨?_⟩ | refine svu ⟨fun u => ?_⟩ | (refine svg (fun hg => ?_) (fun hg => ?_) <;> try (exfalso; first | omega | contradiction)) | (refine svc (fun hc => ?_) (fun hc => ?_) <;> try (exfalso; first | omega | contradiction)) | refine sv2 ?_ | refine svh (fun hb => ?_) (fun hb => ?_) | refine svb (fun b => ?_) | refine sva ?_ | refine sv3 ?_))
      refine S.call ?_; refine (s1 _).mono ?_; rintro r h' ⟨rfl, hh⟩; subst hh
      (repeat' (first | (refine iS ?_; refine iMu ?_; refine S.mapU ?_) | refine svz ⟨fun b hq => ?_⟩ | refine sv1 ?_ | refine svs ⟨?_⟩ | refine svu ⟨fun u => ?_⟩ | (refine svg (fun hg => ?_) (fun hg => ?_) <;> try (exfalso; first | omega | contradiction)) | (refine svc (fun hc => ?_) (fun hc => ?_) <;> try (exfalso; first | omega | contradiction)) | refine sv2 ?_ | refine svh (fun hb => ?_) (fun hb => ?_) | refine svb (fun b => ?_) | refine sva ?_ | refine sv3 ?_))
      refine S.call ?_; refine (n1 _).mono ?_; rintro r h' ⟨rfl, hh⟩; subst hh
      (repeat' (first | (refine iS ?_; refine iMu ?_; refine S.mapU ?_) | refine svz ⟨fun b hq => ?_⟩ | refine sv1 ?_ | refine svs ⟨?_⟩ | refine svu ⟨fun u => ?_⟩ | (refine svg (fun hg => ?_) (fun hg => ?_) <;> try (exfalso; first | omega | contradiction)) | (refine svc (fun hc => ?_) (fun hc => ?_) <;> try (exfalso; first | omega | contradiction)) | refine sv2 ?_ | refine svh (fun hb => ?_) (fun hb => ?_) | refine svb (fun b => ?_) | refine sva ?_ | refine sv3 ?_))
      refine S.call ?_; refine (s2 _).mono ?_; rintro r h' ⟨rfl, hh⟩; subst hh
      (repeat' (first | (refine iS ?_; refine iMu ?_; refine S.mapU ?_) | refine svz ⟨fun b hq => ?_⟩ | refine sv1 ?_ | refine svs ⟨?_⟩ | refine svu ⟨fun u => ?_⟩ | (refine svg (fun hg => ?_) (fun hg => ?_) <;> try (exfalso; first | omega | contradiction)) | (refine svc (fun hc => ?_) (fun hc => ?_) <;> try (exfalso; first | omega | contradiction)) | refine sv2 ?_ | refine svh (fun hb => ?_) (fun hb => ?_) | refine svb (fun b => ?_) | refine sva ?_ | refine sv3 ?_))
      refine S.call ?_; refine (n1 _).mono ?_; rintro r h' ⟨rfl, hh⟩; subst hh
      (repeat' (first | (refine iS ?_; refine iMu ?_; refine S.mapU ?_) | refine svz ⟨fun b hq => ?_⟩ | refine sv1 ?_ | refine svs ⟨?_⟩ | refine svu ⟨fun u => ?_⟩ | (refine svg (fun hg => ?_) (fun hg => ?_) <;> try (exfalso; first | omega | contradiction)) | (refine svc (fun hc => ?_) (fun hc => ?_) <;> try (exfalso; first | omega | contradiction)) | refine sv2 ?_ | refine svh (fun hb => ?_) (fun hb => ?_) | refine svb (fun b => ?_) | refine sva ?_ | refine sv3 ?_))
      refine S.call ?_
      refine ((s3 _).args (by (repeat (first | exact Wk.refl _ | exact Wk.nilr _ | exact Wk.nilm | apply Wk.aggc | apply Wk.tupc | exact Wk.aggn | exact Wk.tupn)); first | done | fail)).mono ?_
      rintro r h' ⟨rfl, hh⟩
      subst hh
      (repeat' (first | (refine iS ?_; refine iMu ?_; refine S.mapU ?_) | refine svz ⟨fun b hq => ?_⟩ | refine sv1 ?_ | refine svs ⟨?_⟩ | refine svu ⟨fun u => ?_⟩ | (refine svg (fun hg => ?_) (fun hg => ?_) <;> try (exfalso; first | omega | contradiction)) | (refine svc (fun hc => ?_) (fun hc => ?_) <;> try (exfalso; first | omega | contradiction)) | refine sv2 ?_ | refine svh (fun hb => ?_) (fun hb => ?_) | refine svb (fun b => ?_) | refine sva ?_ | refine sv3 ?_))
      refine R2.C (awake_c _) ?_
      (repeat' (first | (refine iS ?_; refine iMu ?_; refine S.mapU ?_) | refine svz ⟨fun b hq => ?_⟩ | refine sv1 ?_ | refine svs ⟨?_⟩ | refine svu ⟨fun u => ?_⟩ | (refine svg (fun hg => ?_) (fun hg => ?_) <;> try (exfalso; first | omega | contradiction)) | (refine svc (fun hc => ?_) (fun hc => ?_) <;> try (exfalso; first | omega | contradiction)) | refine sv2 ?_ | refine svh (fun hb => ?_) (fun hb => ?_) | refine svb (fun b => ?_) | refine sva ?_ | refine sv3 ?_))
      refine R2.C (r1 _) ?_
      (repeat' (first | (refine iS ?_; refine iMu ?_; refine S.mapU ?_) | refine svz ⟨fun b hq => ?_⟩ | refine sv1 ?_ | refine svs ⟨?_⟩ | refine svu ⟨fun u => ?_⟩ | (refine svg (fun hg => ?_) (fun hg => ?_) <;> try (exfalso; first | omega | contradiction)) | (refine svc (fun hc => ?_) (fun hc => ?_) <;> try (exfalso; first | omega | contradiction)) | refine sv2 ?_ | refine svh (fun hb => ?_) (fun hb => ?_) | refine svb (fun b => ?_) | refine sva ?_ | refine sv3 ?_))
      refine R2.C (r2 _) ?_
      (repeat' (first | (refine iS ?_; refine iMu ?_; refine S.mapU ?_) | refine svz ⟨fun b hq => ?_⟩ | refine sv1 ?_ | refine svs ⟨?_⟩ | refine svu ⟨fun u => ?_⟩ | (refine svg (fun hg => ?_) (fun hg => ?_) <;> try (exfalso; first | omega | contradiction)) | (refine svc (fun hc => ?_) (fun hc => ?_) <;> try (exfalso; first | omega | contradiction)) | refine sv2 ?_ | refine svh (fun hb => ?_) (fun hb => ?_) | refine svb (fun b => ?_) | refine sva ?_ | refine sv3 ?_))
      refine R2.C (in1 _) ?_
      (repeat' (first | (refine iS ?_; refine iMu ?_; refine S.mapU ?_) | refine svz ⟨fun b hq => ?_⟩ | refine sv1 ?_ | refine svs ⟨?_⟩ | refine svu ⟨fun u => ?_⟩ | (refine svg (fun hg => ?_) (fun hg => ?_) <;> try (exfalso; first | omega | contradiction)) | (refine svc (fun hc => ?_) (fun hc => ?_) <;> try (exfalso; first | omega | contradiction)) | refine sv2 ?_ | refine svh (fun hb => ?_) (fun hb => ?_) | refine svb (fun b => ?_) | refine sva ?_ | refine sv3 ?_))
      refine R2.C (r3 _) ?_
      (repeat' (first | (refine iS ?_; refine iMu ?_; refine S.mapU ?_) | refine svz ⟨fun b hq => ?_⟩ | refine sv1 ?_ | refine svs ⟨?_⟩ | refine svu ⟨fun u => ?_⟩ | (refine svg (fun hg => ?_) (fun hg => ?_) <;> try (exfalso; first | omega | contradiction)) | (refine svc (fun hc => ?_) (fun hc => ?_) <;> try (exfalso; first | omega | contradiction)) | refine sv2 ?_ | refine svh (fun hb => ?_) (fun hb => ?_) | refine svb (fun b => ?_) | refine sva ?_ | refine sv3 ?_))
      refine R2.C (em _) ?_
      (repeat' (first | (refine iS ?_; refine iMu ?_; refine S.mapU ?_) | refine svz ⟨fun b hq => ?_⟩ | refine sv1 ?_ | refine svs ⟨?_⟩ | refine svu ⟨fun u => ?_⟩ | (refine svg (fun hg => ?_) (fun hg => ?_) <;> try (exfalso; first | omega | contradiction)) | (refine svc (fun hc => ?_) (fun hc => ?_) <;> try (exfalso; first | omega | contradiction)) | refine sv2 ?_ | refine svh (fun hb => ?_) (fun hb => ?_) | refine svb (fun b => ?_) | refine sva ?_ | refine sv3 ?_))
      refine R2.C (n1 _) ?_
      (repeat' (first | (refine iS ?_; refine iMu ?_; refine S.mapU ?_) | refine svz ⟨fun b hq => ?_⟩ | refine sv1 ?_ | refine svs ⟨?_⟩ | refine svu ⟨fun u => ?_⟩ | (refine svg (fun hg => ?_) (fun hg => ?_) <;> try (exfalso; first | omega | contradiction)) | (refine svc (fun hc => ?_) (fun hc => ?_) <;> try (exfalso; first | omega | contradiction)) | refine sv2 ?_ | refine svh (fun hb => ?_) (fun hb => ?_) | refine svb (fun b => ?_) | refine sva ?_ | refine sv3 ?_))
      refine R2.C (r4 _) ?_
      (repeat' (first | (refine iS ?_; refine iMu ?_; refine S.mapU ?_) | refine svz ⟨fun b hq => ?_⟩ | refine sv1 ?_ | refine svs ⟨?_⟩ | refine svu ⟨fun u => ?_⟩ | (refine svg (fun hg => ?_) (fun hg => ?_) <;> try (exfalso; first | omega | contradiction)) | (refine svc (fun hc => ?_) (fun hc => ?_) <;> try (exfalso; first | omega | contradiction)) | refine sv2 ?_ | refine svh (fun hb => ?_) (fun hb => ?_) | refine svb (fun b => ?_) | refine sva ?_ | refine sv3 ?_))
      refine R2.C (ar _) ?_
      (repeat' (first | (refine iS ?_; refine iMu ?_; refine S.mapU ?_) | refine svz ⟨fun b hq => ?_⟩ | refine sv1 ?_ | refine svs ⟨?_⟩ | refine svu ⟨fun u => ?_⟩ | (refine svg (fun hg => ?_) (fun hg => ?_) <;> try (exfalso; first | omega | contradiction)) | (refine svc (fun hc => ?_) (fun hc => ?_) <;> try (exfalso; first | omega | contradiction)) | refine sv2 ?_ | refine svh (fun hb => ?_) (fun hb => ?_) | refine svb (fun b => ?_) | refine sva ?_ | refine sv3 ?_))
      exact fin_r (h' := _) rfl
theorem more_row : ∀ l, FitAll maxLen [.int .i8, .int .i8, .sl 1 (.int .i8), .sl 1 (.int .i8)] l → ACalls Try.prog 6 l [] (fun r h' => r = .val (.bool true)) := by
  rintro l ⟨x, _, rfl, hx, y, _, rfl, hy, z, _, rfl, hz, w, _, rfl, hw, rfl⟩
  obtain ⟨a, rfl, ha⟩ := fit_int hx
  obtain ⟨c, rfl, hc⟩ := fit_int hy
  obtain ⟨n, rfl, hn, rn⟩ := fit_ints hz
  obtain ⟨m, rfl, hm, rm⟩ := fit_ints hw
  exact more_c a c n m (wf_i8 ha) (wf_i8 hc) (fun k hk => wf_i8 (rn k hk)) (fun k hk => wf_i8 (rm k hk)) hn hm
end Go.Proofs.Ytmfbfbhkjclhkaa
