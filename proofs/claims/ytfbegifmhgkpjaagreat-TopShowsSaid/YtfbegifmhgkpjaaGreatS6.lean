import Derived.Test.YtfbegifmhgkpjaaGreatS5
namespace Go.Proofs.YtfbegifmhgkpjaaGreat
open Go Go.VM Go.Sort
attribute [local irreducible] PurV Pur Step RL W D ACalls Then InBlock Fini
set_option linter.unusedVariables false
set_option linter.unusedSimpArgs false
set_option maxHeartbeats 20000000
def leA (a : Nat) (q : List Int) (x : Int) : Bool := !ltInt (q.toArray)[a]! x
def gtA (a : Nat) (q : List Int) (x : Int) : Bool := ltInt (q.toArray)[a]! x
set_option maxRecDepth 100000 in
theorem peq_c (l : List Int) (a b pivot : Nat) (v : Value) (h : Heap) (hab : a ≤ pivot) (hpb : pivot < b) (hb : b ≤ l.length) (hn : l.length ≤ 1000000000000) :
    ACalls Tryz.prog 152 [.val v, .val (.int .i64 (a : Int)), .val (.int .i64 (b : Int)), .val (.int .i64 (pivot : Int))] (.own v 1 (ints .i64 l) 3 :: h)
      (fun r h' => ∃ l', r = .val (.int .i64 ((partitionEqual ltInt l.toArray a b pivot).1 : Int)) ∧ h' = .own v 1 (ints .i64 l') 3 :: h ∧ l'.toArray = (partitionEqual ltInt l.toArray a b pivot).2) := by
  refine ACalls.intro Tryz.func152 rfl Tryz.ntmps152 Tryz.results152 (Nat.le_of_ble_eq_true rfl) ?_
  (repeat' (first|refine svz ⟨fun b hq=>?_⟩|refine svW ⟨?_⟩|refine svu ⟨fun u=>?_⟩|(refine svG (fun hc=>?_) (fun hc=>?_)<;>try exact svx)|refine svh (fun hb=>?_) (fun hb=>?_)|refine svb (fun b=>?_)|fail))
  have hq0 : a < l.length := by omega
  have hq1 : pivot < l.length := by omega
  have hix : Nat.succ 0 = 1 := rfl
  refine W.midB (J := fun _ : Unit => ⟨84, [(2, .val (.int .i64 (b : Int))), (1, .val (.int .i64 (a : Int))), (0, .val v)], .own v 1 (ints .i64 (swpL l a pivot)) 3 :: h⟩) (Φ := fun _ => True) inT ?_ ?_
  · (refine W.dend (.done _) ?_; refine D.T 0 ?_; refine D.T 1 ?_; refine D.T 2 ?_; refine D.T 3 ?_; refine D.T 4 ?_; refine D.T 5 ?_; refine D.V 6 ?_; refine D.T 8 ?_; refine D.T 9 ?_; refine D.V 10 ?_; refine D.B2 7 11 ?_ ?_; (refine S.L ?_; refine D.BL 11 ?_; refine S.L ?_; refine D.V 12 ?_; refine D.BL 13 ?_; refine S.store_elem ?_; refine D.V 14 ?_; refine D.BL 15 ?_; refine S.store_elem ?_; refine D.E ?_; refine thn ?_; refine ⟨(), trivial, ?_⟩; simp only [ints_set, getD_at, hix]; exact lee); (refine S.L ?_; refine D.BL 7 ?_; refine S.L ?_; refine D.V 12 ?_; refine D.BL 13 ?_; refine S.store_elem ?_; refine D.V 14 ?_; refine D.BL 15 ?_; refine S.store_elem ?_; refine D.E ?_; refine thn ?_; refine ⟨(), trivial, ?_⟩; simp only [ints_set, getD_at, hix]; exact lee))
  rintro _ _
  obtain ⟨R, hR⟩ : ∃ R, R = partitionEqual ltInt l.toArray a b pivot := ⟨_, rfl⟩
  have hR' := hR
  unfold partitionEqual at hR'
  rw [← swpL_arr] at hR'
  rw [← hR]
  (repeat' (first|refine svz ⟨fun b hq=>?_⟩|refine svW ⟨?_⟩|refine svu ⟨fun u=>?_⟩|(refine svG (fun hc=>?_) (fun hc=>?_)<;>try exact svx)|refine svh (fun hb=>?_) (fun hb=>?_)|refine svb (fun b=>?_)|fail))
  refine W.loop (J := fun x : Nat × Nat × List Int => ⟨84, [(9, .val (.int .i64 (x.1 : Int))), (10, .val (.int .i64 (x.2.1 : Int))), (1, .val (.int .i64 (a : Int))), (0, .val v)], .own v 1 (ints .i64 x.2.2) 3 :: h⟩)
    (Φ := fun x => a < x.1 ∧ x.1 ≤ x.2.1 + 1 ∧ x.2.1 < l.length ∧ x.2.2.length = l.length ∧ partEqLoop ltInt a x.1 x.2.1 x.2.2.toArray = R) (μ := fun x => x.2.1 + 1 - x.1) (a + 1, b - 1, swpL l a pivot) (by dsimp only; rw [show (((b - 1 : Nat) : Int)) = (b : Int) - 1 by omega]; exact lee) ⟨by dsimp only; omega, by dsimp only; omega, by dsimp only; omega, by rw [swpL_length], hR'.symm⟩ ?_
  rintro ⟨i, j, q⟩ ⟨w1, w2, w3, hql, w5⟩
  dsimp only at w1 w2 w3 hql w5 ⊢
  rw [partEqLoop_eq] at w5
  have e1 : (fun x => !ltInt q.toArray[a]! x) = leA a q := rfl
  have e2 : (fun x => ltInt q.toArray[a]! x) = gtA a q := rfl
  rw [e1, e2] at w5
  (repeat' (first | refine svz ⟨fun b hq=>?_⟩|refine sw1 ?_|refine svs ⟨?_⟩|refine sv2 ?_|refine svu ⟨fun u=>?_⟩|(refine svG (fun hc=>?_) (fun hc=>?_)<;>try exact svx)|refine svh (fun hb=>?_) (fun hb=>?_)|refine svb (fun b=>?_) | fail))
  refine W.mid (J := fun x : Nat => ⟨84, [(9, .val (.int .i64 (x : Int))), (10, .val (.int .i64 (j : Int))), (1, .val (.int .i64 (a : Int))), (0, .val v)], .own v 1 (ints .i64 q) 3 :: h⟩) (Φ := fun x => x = scanUp (leA a q) q.toArray j i ∧ a < x ∧ x ≤ j + 1) ?_ ?_
  · (repeat' (first|refine svz ⟨fun b hq=>?_⟩|refine svW ⟨?_⟩|refine svu ⟨fun u=>?_⟩|(refine svG (fun hc=>?_) (fun hc=>?_)<;>try exact svx)|refine svh (fun hb=>?_) (fun hb=>?_)|refine svb (fun b=>?_)|fail))
    refine W.loop (J := fun x : Nat => ⟨84, [(9, .val (.int .i64 (x : Int))), (10, .val (.int .i64 (j : Int))), (1, .val (.int .i64 (a : Int))), (0, .val v)], .own v 1 (ints .i64 q) 3 :: h⟩) (Φ := fun x => a < x ∧ x ≤ j + 1 ∧ scanUp (leA a q) q.toArray j x = scanUp (leA a q) q.toArray j i) (μ := fun x => j + 1 - x) i lee ⟨by omega, by omega, rfl⟩ ?_
    rintro x ⟨g1, g2, g3⟩
    rcases Nat.lt_or_ge j x with gj | gj
    · (repeat' (first|refine svz ⟨fun b hq=>?_⟩|refine svW ⟨?_⟩|refine svu ⟨fun u=>?_⟩|(refine svG (fun hc=>?_) (fun hc=>?_)<;>try exact svx)|refine svh (fun hb=>?_) (fun hb=>?_)|refine svb (fun b=>?_)|fail))
      refine W.dend (.done _) ?_
      refine D.T 0 ?_; refine D.T 1 ?_; refine D.T 2 ?_; refine D.T 3 ?_; refine D.S 4 ?_; refine D.S 5 ?_; refine D.S 6 ?_; refine D.S 7 ?_; refine D.S 8 ?_; refine D.S 9 ?_; refine D.S 10 ?_; refine D.S 11 ?_; refine D.S 12 ?_; refine D.S 13 ?_; refine D.T 14 ?_
      refine D.E ?_
      (repeat' (first|refine svz ⟨fun b hq=>?_⟩|refine svW ⟨?_⟩|refine svu ⟨fun u=>?_⟩|(refine svG (fun hc=>?_) (fun hc=>?_)<;>try exact svx)|refine svh (fun hb=>?_) (fun hb=>?_)|refine svb (fun b=>?_)|fail))
      exact ⟨x, ⟨by rw [← g3, up_stop (.inl gj)], by omega, by omega⟩, lee⟩
    · have hq0 : a < q.length := by omega
      have hq1 : x < q.length := by omega
      refine W.seq ?_
      refine W.mid (J := fun y : Bool => ⟨84, [(43, .val (.bool y)), (9, .val (.int .i64 (x : Int))), (10, .val (.int .i64 (j : Int))), (1, .val (.int .i64 (a : Int))), (0, .val v)], .own v 1 (ints .i64 q) 3 :: h⟩) (Φ := fun y => y = (!ltInt (q.getD a 0) (q.getD x 0))) ?_ ?_
      · refine W.dend (.ro (.done _)) ?_
        refine D.T 0 ?_; refine D.T 1 ?_; refine D.T 2 ?_; refine D.T 3 ?_; refine D.T 4 ?_; refine D.T 5 ?_; refine D.T 6 ?_; refine D.T 7 ?_; refine D.T 8 ?_; refine D.T 9 ?_; refine D.T 10 ?_; refine D.T 11 ?_
        refine D.B1 12 ?_
        rw [getD_at (l := q), getD_at (l := q)]
        refine S.call ?_
        refine (less_c (q.getD a 0) (q.getD x 0) _).mono ?_
        rintro r h' ⟨rfl, hh⟩
        subst hh
        refine D.V 13 ?_; refine D.V 14 ?_
        refine D.E ?_
        refine thn ?_
        exact ⟨decide (¬ q.getD a 0 < q.getD x 0), by unfold ltInt; rw [decide_not], lee⟩
      · rintro y rfl
        cases hlt : ltInt (q.getD a 0) (q.getD x 0)
        · (repeat' (first|refine svz ⟨fun b hq=>?_⟩|refine svW ⟨?_⟩|refine svu ⟨fun u=>?_⟩|(refine svG (fun hc=>?_) (fun hc=>?_)<;>try exact svx)|refine svh (fun hb=>?_) (fun hb=>?_)|refine svb (fun b=>?_)|fail))
          exact ⟨x + 1, ⟨by omega, by omega, by rw [← g3, ← up_go gj (by simp only [leA]; rw [arr_get, arr_get, hlt]; rfl)]⟩, lee, by omega⟩
        · (repeat' (first|refine svz ⟨fun b hq=>?_⟩|refine svW ⟨?_⟩|refine svu ⟨fun u=>?_⟩|(refine svG (fun hc=>?_) (fun hc=>?_)<;>try exact svx)|refine svh (fun hb=>?_) (fun hb=>?_)|refine svb (fun b=>?_)|fail))
          exact ⟨x, ⟨by rw [← g3, up_stop (.inr (by simp only [leA]; rw [arr_get, arr_get, hlt]; rfl))], by omega, by omega⟩, lee⟩
  rintro i2 ⟨hi2, k1, k2⟩
  have k5 : i ≤ i2 := by rw [hi2]; exact scanUp_ge _ _ _ _
  rw [← hi2] at w5
  refine W.mid (J := fun x : Nat => ⟨84, [(9, .val (.int .i64 (i2 : Int))), (10, .val (.int .i64 (x : Int))), (1, .val (.int .i64 (a : Int))), (0, .val v)], .own v 1 (ints .i64 q) 3 :: h⟩) (Φ := fun x => x = scanDown (gtA a q) q.toArray i2 j ∧ i2 ≤ x + 1 ∧ x ≤ j) ?_ ?_
  · (repeat' (first|refine svz ⟨fun b hq=>?_⟩|refine svW ⟨?_⟩|refine svu ⟨fun u=>?_⟩|(refine svG (fun hc=>?_) (fun hc=>?_)<;>try exact svx)|refine svh (fun hb=>?_) (fun hb=>?_)|refine svb (fun b=>?_)|fail))
    refine W.loop (J := fun x : Nat => ⟨84, [(9, .val (.int .i64 (i2 : Int))), (10, .val (.int .i64 (x : Int))), (1, .val (.int .i64 (a : Int))), (0, .val v)], .own v 1 (ints .i64 q) 3 :: h⟩) (Φ := fun x => i2 ≤ x + 1 ∧ x ≤ j ∧ scanDown (gtA a q) q.toArray i2 x = scanDown (gtA a q) q.toArray i2 j) (μ := fun x => x) j lee ⟨by omega, by omega, rfl⟩ ?_
    rintro x ⟨g1, g2, g3⟩
    rcases Nat.lt_or_ge x i2 with gj | gj
    · (repeat' (first|refine svz ⟨fun b hq=>?_⟩|refine svW ⟨?_⟩|refine svu ⟨fun u=>?_⟩|(refine svG (fun hc=>?_) (fun hc=>?_)<;>try exact svx)|refine svh (fun hb=>?_) (fun hb=>?_)|refine svb (fun b=>?_)|fail))
      refine W.dend (.done _) ?_
      refine D.T 0 ?_; refine D.T 1 ?_; refine D.T 2 ?_; refine D.T 3 ?_; refine D.S 4 ?_; refine D.S 5 ?_; refine D.S 6 ?_; refine D.S 7 ?_; refine D.S 8 ?_; refine D.S 9 ?_; refine D.S 10 ?_; refine D.S 11 ?_; refine D.S 12 ?_; refine D.T 13 ?_
      refine D.E ?_
      (repeat' (first|refine svz ⟨fun b hq=>?_⟩|refine svW ⟨?_⟩|refine svu ⟨fun u=>?_⟩|(refine svG (fun hc=>?_) (fun hc=>?_)<;>try exact svx)|refine svh (fun hb=>?_) (fun hb=>?_)|refine svb (fun b=>?_)|fail))
      exact ⟨x, ⟨by rw [← g3, down_stop (.inl gj)], by omega, by omega⟩, lee⟩
    · have hq0 : a < q.length := by omega
      have hq1 : x < q.length := by omega
      refine W.seq ?_
      refine W.mid (J := fun y : Bool => ⟨84, [(59, .val (.bool y)), (9, .val (.int .i64 (i2 : Int))), (10, .val (.int .i64 (x : Int))), (1, .val (.int .i64 (a : Int))), (0, .val v)], .own v 1 (ints .i64 q) 3 :: h⟩) (Φ := fun y => y = ltInt (q.getD a 0) (q.getD x 0)) ?_ ?_
      · refine W.dend (.ro (.done _)) ?_
        refine D.T 0 ?_; refine D.T 1 ?_; refine D.T 2 ?_; refine D.T 3 ?_; refine D.T 4 ?_; refine D.T 5 ?_; refine D.T 6 ?_; refine D.T 7 ?_; refine D.T 8 ?_; refine D.T 9 ?_; refine D.T 10 ?_; refine D.T 11 ?_
        refine D.B1 12 ?_
        rw [getD_at (l := q), getD_at (l := q)]
        refine S.call ?_
        refine (less_c (q.getD a 0) (q.getD x 0) _).mono ?_
        rintro r h' ⟨rfl, hh⟩
        subst hh
        refine D.V 13 ?_
        refine D.E ?_
        refine thn ?_
        exact ⟨ltInt (q.getD a 0) (q.getD x 0), rfl, lee⟩
      · rintro y rfl
        cases hlt : ltInt (q.getD a 0) (q.getD x 0)
        · (repeat' (first|refine svz ⟨fun b hq=>?_⟩|refine svW ⟨?_⟩|refine svu ⟨fun u=>?_⟩|(refine svG (fun hc=>?_) (fun hc=>?_)<;>try exact svx)|refine svh (fun hb=>?_) (fun hb=>?_)|refine svb (fun b=>?_)|fail))
          exact ⟨x, ⟨by rw [← g3, down_stop (.inr (by simp only [gtA]; rw [arr_get, arr_get, hlt]))], by omega, by omega⟩, lee⟩
        · (repeat' (first|refine svz ⟨fun b hq=>?_⟩|refine svW ⟨?_⟩|refine svu ⟨fun u=>?_⟩|(refine svG (fun hc=>?_) (fun hc=>?_)<;>try exact svx)|refine svh (fun hb=>?_) (fun hb=>?_)|refine svb (fun b=>?_)|fail))
          exact ⟨x - 1, ⟨by omega, by omega, by rw [← g3, ← down_go (by omega) gj (by simp only [gtA]; rw [arr_get, arr_get, hlt])]⟩, by rw [show (((x - 1 : Nat) : Int)) = (x : Int) - 1 by omega]; exact lee, by omega⟩
  rintro j2 ⟨hj2, k3, k4⟩
  rw [← hj2] at w5
  have hq3 : j2 < q.length := by omega
  rcases Nat.lt_or_ge j2 i2 with hgt | hle
  · rw [if_pos hgt] at w5
    subst w5
    (repeat' (first|refine svz ⟨fun b hq=>?_⟩|refine svW ⟨?_⟩|refine svu ⟨fun u=>?_⟩|(refine svG (fun hc=>?_) (fun hc=>?_)<;>try exact svx)|refine svh (fun hb=>?_) (fun hb=>?_)|refine svb (fun b=>?_)|fail))
    exact fin_r (h' := .own v 1 (ints .i64 q) 3 :: h) ⟨q, rfl, rfl, rfl⟩
  · rw [if_neg (by omega)] at w5
    have hne : i2 ≠ j2 := fun e => by
      have r1 := up_res (p := leA a q) (d := q.toArray) (j := j) _ i (Nat.le_refl _) (by rw [← hi2]; omega)
      have r2 := down_res (p := gtA a q) (d := q.toArray) (i := i2) (by omega) j (by rw [← hj2]; omega)
      rw [← hi2] at r1; rw [← hj2, ← e] at r2
      simp only [leA] at r1; simp only [gtA] at r2; rw [r2] at r1; cases r1
    have hq4 : i2 < q.length := by omega
    (repeat' (first|refine svz ⟨fun b hq=>?_⟩|refine svW ⟨?_⟩|refine svu ⟨fun u=>?_⟩|(refine svG (fun hc=>?_) (fun hc=>?_)<;>try exact svx)|refine svh (fun hb=>?_) (fun hb=>?_)|refine svb (fun b=>?_)|fail))
    refine W.midB (J := fun _ : Unit => ⟨84, [(9, .val (.int .i64 (i2 : Int))), (10, .val (.int .i64 (j2 : Int))), (1, .val (.int .i64 (a : Int))), (0, .val v)], .own v 1 (ints .i64 (swpL q i2 j2)) 3 :: h⟩) (Φ := fun _ => True) inT ?_ ?_
    · (refine W.dend (.done _) ?_; refine D.T 0 ?_; refine D.T 1 ?_; refine D.T 2 ?_; refine D.T 3 ?_; refine D.T 4 ?_; refine D.T 5 ?_; refine D.V 6 ?_; refine D.T 8 ?_; refine D.T 9 ?_; refine D.V 10 ?_; refine D.B2 7 11 ?_ ?_; (refine S.L ?_; refine D.BL 11 ?_; refine S.L ?_; refine D.V 12 ?_; refine D.BL 13 ?_; refine S.store_elem ?_; refine D.V 14 ?_; refine D.BL 15 ?_; refine S.store_elem ?_; refine D.E ?_; refine thn ?_; refine ⟨(), trivial, ?_⟩; simp only [ints_set, getD_at, hix]; exact lee); (refine S.L ?_; refine D.BL 7 ?_; refine S.L ?_; refine D.V 12 ?_; refine D.BL 13 ?_; refine S.store_elem ?_; refine D.V 14 ?_; refine D.BL 15 ?_; refine S.store_elem ?_; refine D.E ?_; refine thn ?_; refine ⟨(), trivial, ?_⟩; simp only [ints_set, getD_at, hix]; exact lee))
    rintro _ _
    (repeat' (first|refine svz ⟨fun b hq=>?_⟩|refine svW ⟨?_⟩|refine svu ⟨fun u=>?_⟩|(refine svG (fun hc=>?_) (fun hc=>?_)<;>try exact svx)|refine svh (fun hb=>?_) (fun hb=>?_)|refine svb (fun b=>?_)|fail))
    exact ⟨(i2 + 1, j2 - 1, swpL q i2 j2), ⟨by dsimp only; omega, by dsimp only; omega, by dsimp only; omega, by rw [swpL_length]; exact hql, by dsimp only; rw [swpL_arr]; exact w5⟩, by dsimp only; rw [show (((j2 - 1 : Nat) : Int)) = (j2 : Int) - 1 by omega]; exact lee, by dsimp only; omega⟩
end Go.Proofs.YtfbegifmhgkpjaaGreat
