import Derived.Test.YtfbegifmhgkpjaaGreatS4
namespace Go.Proofs.YtfbegifmhgkpjaaGreat
open Go Go.VM Go.Sort
attribute [local irreducible] PurV Pur Step RL W D ACalls Then InBlock Fini
set_option linter.unusedVariables false
set_option linter.unusedSimpArgs false
set_option maxHeartbeats 20000000
theorem up_go {p : Int → Bool} {d : Array Int} {j i : Nat} (h : i ≤ j) (hp : p d[i]! = true) : scanUp p d j (i + 1) = scanUp p d j i := by
  conv => rhs; rw [scanUp, if_pos (by simp [h, hp])]
theorem up_stop {p : Int → Bool} {d : Array Int} {j i : Nat} (h : j < i ∨ p d[i]! = false) : scanUp p d j i = i := by
  rw [scanUp, if_neg]
  rcases h with h | h
  · simp; omega
  · simp [h]
theorem down_go {p : Int → Bool} {d : Array Int} {j i : Nat} (hj : 1 ≤ j) (h : i ≤ j) (hp : p d[j]! = true) : scanDown p d i (j - 1) = scanDown p d i j := by
  obtain ⟨j, rfl⟩ : ∃ k, j = k + 1 := ⟨j - 1, by omega⟩
  conv => rhs; rw [scanDown, if_pos (by simp [h, hp])]
  rfl
theorem down_stop {p : Int → Bool} {d : Array Int} {j i : Nat} (h : j < i ∨ p d[j]! = false) : scanDown p d i j = j := by
  cases j with
  | zero => rfl
  | succ j =>
    rw [scanDown, if_neg]
    rcases h with h | h
    · simp; omega
    · simp [h]
theorem up_res {p : Int → Bool} {d : Array Int} {j : Nat} : ∀ (n i : Nat), j + 1 - i ≤ n → scanUp p d j i ≤ j → p d[scanUp p d j i]! = false
  | 0, i, hn, h => by rw [up_stop (.inl (by omega))] at h; omega
  | n + 1, i, hn, h => by
    rcases Nat.lt_or_ge j i with hj | hj
    · rw [up_stop (.inl hj)] at h; omega
    · cases hp : p d[i]!
      · rw [up_stop (.inr hp)]; exact hp
      · rw [← up_go hj hp] at h ⊢; exact up_res n (i + 1) (by omega) h
theorem down_res {p : Int → Bool} {d : Array Int} {i : Nat} (hi : 1 ≤ i) : ∀ (j : Nat), i ≤ scanDown p d i j → p d[scanDown p d i j]! = false
  | 0, h => by simp [scanDown] at h; omega
  | j + 1, h => by
    rcases Nat.lt_or_ge (j + 1) i with hj | hj
    · rw [down_stop (.inl hj)] at h; omega
    · cases hp : p d[j + 1]!
      · rw [down_stop (.inr hp)]; exact hp
      · rw [← down_go (by omega) hj hp] at h ⊢; exact down_res hi j h
def lessA (a : Nat) (q : List Int) (x : Int) : Bool := ltInt x (q.toArray)[a]!
def geA (a : Nat) (q : List Int) (x : Int) : Bool := !ltInt x (q.toArray)[a]!
set_option maxRecDepth 100000 in
theorem part_c (l : List Int) (a b pivot : Nat) (v : Value) (h : Heap) (hab : a ≤ pivot) (hpb : pivot < b) (hb : b ≤ l.length) (hn : l.length ≤ 1000000000000) :
    ACalls Tryz.prog 153 [.val v, .val (.int .i64 (a : Int)), .val (.int .i64 (b : Int)), .val (.int .i64 (pivot : Int))] (.own v 1 (ints .i64 l) 3 :: h)
      (fun r h' => ∃ l', r = .tup [.val (.int .i64 ((partition ltInt l.toArray a b pivot).1 : Int)), .val (.bool (partition ltInt l.toArray a b pivot).2.1)] ∧ h' = .own v 1 (ints .i64 l') 3 :: h ∧ l'.toArray = (partition ltInt l.toArray a b pivot).2.2) := by
  refine ACalls.intro Tryz.func153 rfl Tryz.ntmps153 Tryz.results153 (Nat.le_of_ble_eq_true rfl) ?_
  (repeat' (first|refine svz ⟨fun b hq=>?_⟩|refine svW ⟨?_⟩|refine svu ⟨fun u=>?_⟩|(refine svG (fun hc=>?_) (fun hc=>?_)<;>try exact svx)|refine svh (fun hb=>?_) (fun hb=>?_)|refine svb (fun b=>?_)|fail))
  have hq0 : a < l.length := by omega
  have hq1 : pivot < l.length := by omega
  have hix : Nat.succ 0 = 1 := rfl
  refine W.midB (J := fun _ : Unit => ⟨168, [(2, .val (.int .i64 (b : Int))), (1, .val (.int .i64 (a : Int))), (0, .val v)], .own v 1 (ints .i64 (swpL l a pivot)) 3 :: h⟩) (Φ := fun _ => True) inT ?_ ?_
  · (refine W.dend (.done _) ?_; refine D.T 0 ?_; refine D.T 1 ?_; refine D.T 2 ?_; refine D.T 3 ?_; refine D.T 4 ?_; refine D.T 5 ?_; refine D.V 6 ?_; refine D.T 8 ?_; refine D.T 9 ?_; refine D.V 10 ?_; refine D.B2 7 11 ?_ ?_; (refine S.L ?_; refine D.BL 11 ?_; refine S.L ?_; refine D.V 12 ?_; refine D.BL 13 ?_; refine S.store_elem ?_; refine D.V 14 ?_; refine D.BL 15 ?_; refine S.store_elem ?_; refine D.E ?_; refine thn ?_; refine ⟨(), trivial, ?_⟩; simp only [ints_set, getD_at, hix]; exact lee); (refine S.L ?_; refine D.BL 7 ?_; refine S.L ?_; refine D.V 12 ?_; refine D.BL 13 ?_; refine S.store_elem ?_; refine D.V 14 ?_; refine D.BL 15 ?_; refine S.store_elem ?_; refine D.E ?_; refine thn ?_; refine ⟨(), trivial, ?_⟩; simp only [ints_set, getD_at, hix]; exact lee))
  rintro _ _
  obtain ⟨q, hq⟩ : ∃ q, q = swpL l a pivot := ⟨_, rfl⟩
  have hql : q.length = l.length := by rw [hq]; exact swpL_length _ _ _
  have hqa : q.toArray = swp l.toArray a pivot := by rw [hq]; exact swpL_arr _ _ _
  rw [← hq]
  have hpart : partition ltInt l.toArray a b pivot =
      if scanUp (lessA a q) q.toArray (b - 1) (a + 1) > scanDown (geA a q) q.toArray (scanUp (lessA a q) q.toArray (b - 1) (a + 1)) (b - 1) then
        (scanDown (geA a q) q.toArray (scanUp (lessA a q) q.toArray (b - 1) (a + 1)) (b - 1), true, swp q.toArray (scanDown (geA a q) q.toArray (scanUp (lessA a q) q.toArray (b - 1) (a + 1)) (b - 1)) a)
      else ((partLoop ltInt a (scanUp (lessA a q) q.toArray (b - 1) (a + 1) + 1) (scanDown (geA a q) q.toArray (scanUp (lessA a q) q.toArray (b - 1) (a + 1)) (b - 1) - 1) (swp q.toArray (scanUp (lessA a q) q.toArray (b - 1) (a + 1)) (scanDown (geA a q) q.toArray (scanUp (lessA a q) q.toArray (b - 1) (a + 1)) (b - 1)))).1, false,
        swp (partLoop ltInt a (scanUp (lessA a q) q.toArray (b - 1) (a + 1) + 1) (scanDown (geA a q) q.toArray (scanUp (lessA a q) q.toArray (b - 1) (a + 1)) (b - 1) - 1) (swp q.toArray (scanUp (lessA a q) q.toArray (b - 1) (a + 1)) (scanDown (geA a q) q.toArray (scanUp (lessA a q) q.toArray (b - 1) (a + 1)) (b - 1)))).2
          (partLoop ltInt a (scanUp (lessA a q) q.toArray (b - 1) (a + 1) + 1) (scanDown (geA a q) q.toArray (scanUp (lessA a q) q.toArray (b - 1) (a + 1)) (b - 1) - 1) (swp q.toArray (scanUp (lessA a q) q.toArray (b - 1) (a + 1)) (scanDown (geA a q) q.toArray (scanUp (lessA a q) q.toArray (b - 1) (a + 1)) (b - 1)))).1 a) := by
    unfold partition; rw [← hqa]; rfl
  clear hq hqa
  (repeat' (first | refine svz ⟨fun b hq=>?_⟩|refine sw1 ?_|refine svs ⟨?_⟩|refine sv2 ?_|refine svu ⟨fun u=>?_⟩|(refine svG (fun hc=>?_) (fun hc=>?_)<;>try exact svx)|refine svh (fun hb=>?_) (fun hb=>?_)|refine svb (fun b=>?_) | fail))
  obtain ⟨i, hi⟩ : ∃ i, i = a + 1 := ⟨_, rfl⟩
  obtain ⟨j, hj⟩ : ∃ j, j = b - 1 := ⟨_, rfl⟩
  rw [← hi, ← hj] at hpart
  rw [show ((a : Int) + 1) = ((i : Nat) : Int) by omega, show ((b : Int) - 1) = ((j : Nat) : Int) by omega]
  refine W.mid (J := fun x : Nat => ⟨168, [(10, .val (.int .i64 (x : Int))), (11, .val (.int .i64 (j : Int))), (1, .val (.int .i64 (a : Int))), (0, .val v)], .own v 1 (ints .i64 q) 3 :: h⟩) (Φ := fun x => x = scanUp (lessA a q) q.toArray j i ∧ a < x ∧ x ≤ j + 1) ?_ ?_
  · (repeat' (first|refine svz ⟨fun b hq=>?_⟩|refine svW ⟨?_⟩|refine svu ⟨fun u=>?_⟩|(refine svG (fun hc=>?_) (fun hc=>?_)<;>try exact svx)|refine svh (fun hb=>?_) (fun hb=>?_)|refine svb (fun b=>?_)|fail))
    refine W.loop (J := fun x : Nat => ⟨168, [(10, .val (.int .i64 (x : Int))), (11, .val (.int .i64 (j : Int))), (1, .val (.int .i64 (a : Int))), (0, .val v)], .own v 1 (ints .i64 q) 3 :: h⟩) (Φ := fun x => a < x ∧ x ≤ j + 1 ∧ scanUp (lessA a q) q.toArray j x = scanUp (lessA a q) q.toArray j i) (μ := fun x => j + 1 - x) i lee ⟨by omega, by omega, rfl⟩ ?_
    rintro x ⟨g1, g2, g3⟩
    rcases Nat.lt_or_ge j x with gj | gj
    · (repeat' (first|refine svz ⟨fun b hq=>?_⟩|refine svW ⟨?_⟩|refine svu ⟨fun u=>?_⟩|(refine svG (fun hc=>?_) (fun hc=>?_)<;>try exact svx)|refine svh (fun hb=>?_) (fun hb=>?_)|refine svb (fun b=>?_)|fail))
      refine W.dend (.done _) ?_
      refine D.T 0 ?_; refine D.T 1 ?_; refine D.T 2 ?_; refine D.T 3 ?_; refine D.S 4 ?_; refine D.S 5 ?_; refine D.S 6 ?_; refine D.S 7 ?_; refine D.S 8 ?_; refine D.S 9 ?_; refine D.S 10 ?_; refine D.S 11 ?_; refine D.S 12 ?_; refine D.T 13 ?_
      refine D.E ?_
      (repeat' (first|refine svz ⟨fun b hq=>?_⟩|refine svW ⟨?_⟩|refine svu ⟨fun u=>?_⟩|(refine svG (fun hc=>?_) (fun hc=>?_)<;>try exact svx)|refine svh (fun hb=>?_) (fun hb=>?_)|refine svb (fun b=>?_)|fail))
      exact ⟨x, ⟨by rw [← g3, up_stop (.inl gj)], by omega, by omega⟩, lee⟩
    · have hq0 : a < q.length := by omega
      have hq1 : x < q.length := by omega
      refine W.seq ?_
      refine W.mid (J := fun y : Bool => ⟨168, [(43, .val (.bool y)), (10, .val (.int .i64 (x : Int))), (11, .val (.int .i64 (j : Int))), (1, .val (.int .i64 (a : Int))), (0, .val v)], .own v 1 (ints .i64 q) 3 :: h⟩) (Φ := fun y => y = ltInt (q.getD x 0) (q.getD a 0)) ?_ ?_
      · refine W.dend (.ro (.done _)) ?_
        refine D.T 0 ?_; refine D.T 1 ?_; refine D.T 2 ?_; refine D.T 3 ?_; refine D.T 4 ?_; refine D.T 5 ?_; refine D.T 6 ?_; refine D.T 7 ?_; refine D.T 8 ?_; refine D.T 9 ?_; refine D.T 10 ?_; refine D.T 11 ?_
        refine D.B1 12 ?_
        rw [getD_at (l := q), getD_at (l := q)]
        refine S.call ?_
        refine (less_c (q.getD x 0) (q.getD a 0) _).mono ?_
        rintro r h' ⟨rfl, hh⟩
        subst hh
        refine D.V 13 ?_
        refine D.E ?_
        refine thn ?_
        exact ⟨ltInt (q.getD x 0) (q.getD a 0), rfl, lee⟩
      · rintro y rfl
        cases hlt : ltInt (q.getD x 0) (q.getD a 0)
        · (repeat' (first|refine svz ⟨fun b hq=>?_⟩|refine svW ⟨?_⟩|refine svu ⟨fun u=>?_⟩|(refine svG (fun hc=>?_) (fun hc=>?_)<;>try exact svx)|refine svh (fun hb=>?_) (fun hb=>?_)|refine svb (fun b=>?_)|fail))
          exact ⟨x, ⟨by rw [← g3, up_stop (.inr (by simp only [lessA]; rw [arr_get, arr_get, hlt]))], by omega, by omega⟩, lee⟩
        · (repeat' (first|refine svz ⟨fun b hq=>?_⟩|refine svW ⟨?_⟩|refine svu ⟨fun u=>?_⟩|(refine svG (fun hc=>?_) (fun hc=>?_)<;>try exact svx)|refine svh (fun hb=>?_) (fun hb=>?_)|refine svb (fun b=>?_)|fail))
          exact ⟨x + 1, ⟨by omega, by omega, by rw [← g3, ← up_go gj (by simp only [lessA]; rw [arr_get, arr_get, hlt])]⟩, lee, by omega⟩
  rintro i2 ⟨hi2, k1, k2⟩
  rw [← hi2] at hpart
  refine W.mid (J := fun x : Nat => ⟨168, [(10, .val (.int .i64 (i2 : Int))), (11, .val (.int .i64 (x : Int))), (1, .val (.int .i64 (a : Int))), (0, .val v)], .own v 1 (ints .i64 q) 3 :: h⟩) (Φ := fun x => x = scanDown (geA a q) q.toArray i2 j ∧ i2 ≤ x + 1 ∧ x ≤ j) ?_ ?_
  · (repeat' (first|refine svz ⟨fun b hq=>?_⟩|refine svW ⟨?_⟩|refine svu ⟨fun u=>?_⟩|(refine svG (fun hc=>?_) (fun hc=>?_)<;>try exact svx)|refine svh (fun hb=>?_) (fun hb=>?_)|refine svb (fun b=>?_)|fail))
    refine W.loop (J := fun x : Nat => ⟨168, [(10, .val (.int .i64 (i2 : Int))), (11, .val (.int .i64 (x : Int))), (1, .val (.int .i64 (a : Int))), (0, .val v)], .own v 1 (ints .i64 q) 3 :: h⟩) (Φ := fun x => i2 ≤ x + 1 ∧ x ≤ j ∧ scanDown (geA a q) q.toArray i2 x = scanDown (geA a q) q.toArray i2 j) (μ := fun x => x) j lee ⟨by omega, by omega, rfl⟩ ?_
    rintro x ⟨g1, g2, g3⟩
    rcases Nat.lt_or_ge x i2 with gj | gj
    · (repeat' (first|refine svz ⟨fun b hq=>?_⟩|refine svW ⟨?_⟩|refine svu ⟨fun u=>?_⟩|(refine svG (fun hc=>?_) (fun hc=>?_)<;>try exact svx)|refine svh (fun hb=>?_) (fun hb=>?_)|refine svb (fun b=>?_)|fail))
      refine W.dend (.done _) ?_
      refine D.T 0 ?_; refine D.T 1 ?_; refine D.T 2 ?_; refine D.T 3 ?_; refine D.S 4 ?_; refine D.S 5 ?_; refine D.S 6 ?_; refine D.S 7 ?_; refine D.S 8 ?_; refine D.S 9 ?_; refine D.S 10 ?_; refine D.S 11 ?_; refine D.S 12 ?_; refine D.S 13 ?_; refine D.T 14 ?_
      refine D.E ?_
      (repeat' (first|refine svz ⟨fun b hq=>?_⟩|refine svW ⟨?_⟩|refine svu ⟨fun u=>?_⟩|(refine svG (fun hc=>?_) (fun hc=>?_)<;>try exact svx)|refine svh (fun hb=>?_) (fun hb=>?_)|refine svb (fun b=>?_)|fail))
      exact ⟨x, ⟨by rw [← g3, down_stop (.inl gj)], by omega, by omega⟩, lee⟩
    · have hq0 : a < q.length := by omega
      have hq1 : x < q.length := by omega
      refine W.seq ?_
      refine W.mid (J := fun y : Bool => ⟨168, [(60, .val (.bool y)), (10, .val (.int .i64 (i2 : Int))), (11, .val (.int .i64 (x : Int))), (1, .val (.int .i64 (a : Int))), (0, .val v)], .own v 1 (ints .i64 q) 3 :: h⟩) (Φ := fun y => y = (!ltInt (q.getD x 0) (q.getD a 0))) ?_ ?_
      · refine W.dend (.ro (.done _)) ?_
        refine D.T 0 ?_; refine D.T 1 ?_; refine D.T 2 ?_; refine D.T 3 ?_; refine D.T 4 ?_; refine D.T 5 ?_; refine D.T 6 ?_; refine D.T 7 ?_; refine D.T 8 ?_; refine D.T 9 ?_; refine D.T 10 ?_; refine D.T 11 ?_
        refine D.B1 12 ?_
        rw [getD_at (l := q), getD_at (l := q)]
        refine S.call ?_
        refine (less_c (q.getD x 0) (q.getD a 0) _).mono ?_
        rintro r h' ⟨rfl, hh⟩
        subst hh
        refine D.V 13 ?_; refine D.V 14 ?_
        refine D.E ?_
        refine thn ?_
        exact ⟨decide (¬ q.getD x 0 < q.getD a 0), by unfold ltInt; rw [decide_not], lee⟩
      · rintro y rfl
        cases hlt : ltInt (q.getD x 0) (q.getD a 0)
        · (repeat' (first|refine svz ⟨fun b hq=>?_⟩|refine svW ⟨?_⟩|refine svu ⟨fun u=>?_⟩|(refine svG (fun hc=>?_) (fun hc=>?_)<;>try exact svx)|refine svh (fun hb=>?_) (fun hb=>?_)|refine svb (fun b=>?_)|fail))
          exact ⟨x - 1, ⟨by omega, by omega, by rw [← g3, ← down_go (by omega) gj (by simp only [geA]; rw [arr_get, arr_get, hlt]; rfl)]⟩, by rw [show (((x - 1 : Nat) : Int)) = (x : Int) - 1 by omega]; exact lee, by omega⟩
        · (repeat' (first|refine svz ⟨fun b hq=>?_⟩|refine svW ⟨?_⟩|refine svu ⟨fun u=>?_⟩|(refine svG (fun hc=>?_) (fun hc=>?_)<;>try exact svx)|refine svh (fun hb=>?_) (fun hb=>?_)|refine svb (fun b=>?_)|fail))
          exact ⟨x, ⟨by rw [← g3, down_stop (.inr (by simp only [geA]; rw [arr_get, arr_get, hlt]; rfl))], by omega, by omega⟩, lee⟩
  rintro j2 ⟨hj2, k3, k4⟩
  rw [← hj2] at hpart
  have hq2 : a < q.length := by omega
  have hq3 : j2 < q.length := by omega
  rcases Nat.lt_or_ge j2 i2 with hgt | hle
  · rw [if_pos hgt] at hpart
    rw [hpart]
    (repeat' (first|refine svz ⟨fun b hq=>?_⟩|refine svW ⟨?_⟩|refine svu ⟨fun u=>?_⟩|(refine svG (fun hc=>?_) (fun hc=>?_)<;>try exact svx)|refine svh (fun hb=>?_) (fun hb=>?_)|refine svb (fun b=>?_)|fail))
    refine W.midB (J := fun _ : Unit => ⟨168, [(11, .val (.int .i64 (j2 : Int))), (1, .val (.int .i64 (a : Int))), (0, .val v)], .own v 1 (ints .i64 (swpL q j2 a)) 3 :: h⟩) (Φ := fun _ => True) inT ?_ ?_
    · (refine W.dend (.done _) ?_; refine D.T 0 ?_; refine D.T 1 ?_; refine D.T 2 ?_; refine D.T 3 ?_; refine D.T 4 ?_; refine D.T 5 ?_; refine D.V 6 ?_; refine D.T 8 ?_; refine D.T 9 ?_; refine D.V 10 ?_; refine D.B2 7 11 ?_ ?_; (refine S.L ?_; refine D.BL 11 ?_; refine S.L ?_; refine D.V 12 ?_; refine D.BL 13 ?_; refine S.store_elem ?_; refine D.V 14 ?_; refine D.BL 15 ?_; refine S.store_elem ?_; refine D.E ?_; refine thn ?_; refine ⟨(), trivial, ?_⟩; simp only [ints_set, getD_at, hix]; exact lee); (refine S.L ?_; refine D.BL 7 ?_; refine S.L ?_; refine D.V 12 ?_; refine D.BL 13 ?_; refine S.store_elem ?_; refine D.V 14 ?_; refine D.BL 15 ?_; refine S.store_elem ?_; refine D.E ?_; refine thn ?_; refine ⟨(), trivial, ?_⟩; simp only [ints_set, getD_at, hix]; exact lee))
    rintro _ _
    (repeat' (first|refine svz ⟨fun b hq=>?_⟩|refine svW ⟨?_⟩|refine svu ⟨fun u=>?_⟩|(refine svG (fun hc=>?_) (fun hc=>?_)<;>try exact svx)|refine svh (fun hb=>?_) (fun hb=>?_)|refine svb (fun b=>?_)|fail))
    exact fin_r (h' := .own v 1 (ints .i64 (swpL q j2 a)) 3 :: h) ⟨swpL q j2 a, rfl, rfl, swpL_arr _ _ _⟩
  · rw [if_neg (by omega)] at hpart
    have hne : i2 ≠ j2 := fun e => by
      have r1 := up_res (p := lessA a q) (d := q.toArray) (j := j) _ i (Nat.le_refl _) (by rw [← hi2]; omega)
      have r2 := down_res (p := geA a q) (d := q.toArray) (i := i2) (by omega) j (by rw [← hj2]; omega)
      rw [← hi2] at r1; rw [← hj2, ← e] at r2
      simp only [lessA] at r1; simp only [geA] at r2; rw [r1] at r2; cases r2
    have hq4 : i2 < q.length := by omega
    (repeat' (first|refine svz ⟨fun b hq=>?_⟩|refine svW ⟨?_⟩|refine svu ⟨fun u=>?_⟩|(refine svG (fun hc=>?_) (fun hc=>?_)<;>try exact svx)|refine svh (fun hb=>?_) (fun hb=>?_)|refine svb (fun b=>?_)|fail))
    refine W.midB (J := fun _ : Unit => ⟨168, [(10, .val (.int .i64 (i2 : Int))), (11, .val (.int .i64 (j2 : Int))), (1, .val (.int .i64 (a : Int))), (0, .val v)], .own v 1 (ints .i64 (swpL q i2 j2)) 3 :: h⟩) (Φ := fun _ => True) inT ?_ ?_
    · (refine W.dend (.done _) ?_; refine D.T 0 ?_; refine D.T 1 ?_; refine D.T 2 ?_; refine D.T 3 ?_; refine D.T 4 ?_; refine D.T 5 ?_; refine D.V 6 ?_; refine D.T 8 ?_; refine D.T 9 ?_; refine D.V 10 ?_; refine D.B2 7 11 ?_ ?_; (refine S.L ?_; refine D.BL 11 ?_; refine S.L ?_; refine D.V 12 ?_; refine D.BL 13 ?_; refine S.store_elem ?_; refine D.V 14 ?_; refine D.BL 15 ?_; refine S.store_elem ?_; refine D.E ?_; refine thn ?_; refine ⟨(), trivial, ?_⟩; simp only [ints_set, getD_at, hix]; exact lee); (refine S.L ?_; refine D.BL 7 ?_; refine S.L ?_; refine D.V 12 ?_; refine D.BL 13 ?_; refine S.store_elem ?_; refine D.V 14 ?_; refine D.BL 15 ?_; refine S.store_elem ?_; refine D.E ?_; refine thn ?_; refine ⟨(), trivial, ?_⟩; simp only [ints_set, getD_at, hix]; exact lee))
    rintro _ _
    rw [← swpL_arr] at hpart
    obtain ⟨R, hR⟩ : ∃ R, R = partLoop ltInt a (i2 + 1) (j2 - 1) (swpL q i2 j2).toArray := ⟨_, rfl⟩
    rw [← hR] at hpart
    rw [hpart]
    (repeat' (first|refine svz ⟨fun b hq=>?_⟩|refine svW ⟨?_⟩|refine svu ⟨fun u=>?_⟩|(refine svG (fun hc=>?_) (fun hc=>?_)<;>try exact svx)|refine svh (fun hb=>?_) (fun hb=>?_)|refine svb (fun b=>?_)|fail))
    refine W.loop (J := fun x : Nat × Nat × List Int => ⟨168, [(10, .val (.int .i64 (x.1 : Int))), (11, .val (.int .i64 (x.2.1 : Int))), (1, .val (.int .i64 (a : Int))), (0, .val v)], .own v 1 (ints .i64 x.2.2) 3 :: h⟩)
      (Φ := fun x => a < x.1 ∧ x.1 ≤ x.2.1 + 1 ∧ x.2.1 < l.length ∧ x.2.2.length = l.length ∧ partLoop ltInt a x.1 x.2.1 x.2.2.toArray = R) (μ := fun x => x.2.1 + 1 - x.1) (i2 + 1, j2 - 1, swpL q i2 j2) (by dsimp only; rw [show (((j2 - 1 : Nat) : Int)) = (j2 : Int) - 1 by omega]; exact lee) ⟨by dsimp only; omega, by dsimp only; omega, by dsimp only; omega, by rw [swpL_length]; exact hql, hR.symm⟩ ?_
    rintro ⟨i, j, q⟩ ⟨w1, w2, w3, hql, w5⟩
    dsimp only at w1 w2 w3 hql w5 ⊢
    rw [partLoop_eq] at w5
    have e1 : (fun x => ltInt x q.toArray[a]!) = lessA a q := rfl
    have e2 : (fun x => !ltInt x q.toArray[a]!) = geA a q := rfl
    rw [e1, e2] at w5
    (repeat' (first | refine svz ⟨fun b hq=>?_⟩|refine sw1 ?_|refine svs ⟨?_⟩|refine sv2 ?_|refine svu ⟨fun u=>?_⟩|(refine svG (fun hc=>?_) (fun hc=>?_)<;>try exact svx)|refine svh (fun hb=>?_) (fun hb=>?_)|refine svb (fun b=>?_) | fail))
    refine W.mid (J := fun x : Nat => ⟨168, [(10, .val (.int .i64 (x : Int))), (11, .val (.int .i64 (j : Int))), (1, .val (.int .i64 (a : Int))), (0, .val v)], .own v 1 (ints .i64 q) 3 :: h⟩) (Φ := fun x => x = scanUp (lessA a q) q.toArray j i ∧ a < x ∧ x ≤ j + 1) ?_ ?_
    · (repeat' (first|refine svz ⟨fun b hq=>?_⟩|refine svW ⟨?_⟩|refine svu ⟨fun u=>?_⟩|(refine svG (fun hc=>?_) (fun hc=>?_)<;>try exact svx)|refine svh (fun hb=>?_) (fun hb=>?_)|refine svb (fun b=>?_)|fail))
      refine W.loop (J := fun x : Nat => ⟨168, [(10, .val (.int .i64 (x : Int))), (11, .val (.int .i64 (j : Int))), (1, .val (.int .i64 (a : Int))), (0, .val v)], .own v 1 (ints .i64 q) 3 :: h⟩) (Φ := fun x => a < x ∧ x ≤ j + 1 ∧ scanUp (lessA a q) q.toArray j x = scanUp (lessA a q) q.toArray j i) (μ := fun x => j + 1 - x) i lee ⟨by omega, by omega, rfl⟩ ?_
      rintro x ⟨g1, g2, g3⟩
      rcases Nat.lt_or_ge j x with gj | gj
      · (repeat' (first|refine svz ⟨fun b hq=>?_⟩|refine svW ⟨?_⟩|refine svu ⟨fun u=>?_⟩|(refine svG (fun hc=>?_) (fun hc=>?_)<;>try exact svx)|refine svh (fun hb=>?_) (fun hb=>?_)|refine svb (fun b=>?_)|fail))
        refine W.dend (.done _) ?_
        refine D.T 0 ?_; refine D.T 1 ?_; refine D.T 2 ?_; refine D.T 3 ?_; refine D.S 4 ?_; refine D.S 5 ?_; refine D.S 6 ?_; refine D.S 7 ?_; refine D.S 8 ?_; refine D.S 9 ?_; refine D.S 10 ?_; refine D.S 11 ?_; refine D.S 12 ?_; refine D.T 13 ?_
        refine D.E ?_
        (repeat' (first|refine svz ⟨fun b hq=>?_⟩|refine svW ⟨?_⟩|refine svu ⟨fun u=>?_⟩|(refine svG (fun hc=>?_) (fun hc=>?_)<;>try exact svx)|refine svh (fun hb=>?_) (fun hb=>?_)|refine svb (fun b=>?_)|fail))
        exact ⟨x, ⟨by rw [← g3, up_stop (.inl gj)], by omega, by omega⟩, lee⟩
      · have hq0 : a < q.length := by omega
        have hq1 : x < q.length := by omega
        refine W.seq ?_
        refine W.mid (J := fun y : Bool => ⟨168, [(112, .val (.bool y)), (10, .val (.int .i64 (x : Int))), (11, .val (.int .i64 (j : Int))), (1, .val (.int .i64 (a : Int))), (0, .val v)], .own v 1 (ints .i64 q) 3 :: h⟩) (Φ := fun y => y = ltInt (q.getD x 0) (q.getD a 0)) ?_ ?_
        · refine W.dend (.ro (.done _)) ?_
          refine D.T 0 ?_; refine D.T 1 ?_; refine D.T 2 ?_; refine D.T 3 ?_; refine D.T 4 ?_; refine D.T 5 ?_; refine D.T 6 ?_; refine D.T 7 ?_; refine D.T 8 ?_; refine D.T 9 ?_; refine D.T 10 ?_; refine D.T 11 ?_
          refine D.B1 12 ?_
          rw [getD_at (l := q), getD_at (l := q)]
          refine S.call ?_
          refine (less_c (q.getD x 0) (q.getD a 0) _).mono ?_
          rintro r h' ⟨rfl, hh⟩
          subst hh
          refine D.V 13 ?_
          refine D.E ?_
          refine thn ?_
          exact ⟨ltInt (q.getD x 0) (q.getD a 0), rfl, lee⟩
        · rintro y rfl
          cases hlt : ltInt (q.getD x 0) (q.getD a 0)
          · (repeat' (first|refine svz ⟨fun b hq=>?_⟩|refine svW ⟨?_⟩|refine svu ⟨fun u=>?_⟩|(refine svG (fun hc=>?_) (fun hc=>?_)<;>try exact svx)|refine svh (fun hb=>?_) (fun hb=>?_)|refine svb (fun b=>?_)|fail))
            exact ⟨x, ⟨by rw [← g3, up_stop (.inr (by simp only [lessA]; rw [arr_get, arr_get, hlt]))], by omega, by omega⟩, lee⟩
          · (repeat' (first|refine svz ⟨fun b hq=>?_⟩|refine svW ⟨?_⟩|refine svu ⟨fun u=>?_⟩|(refine svG (fun hc=>?_) (fun hc=>?_)<;>try exact svx)|refine svh (fun hb=>?_) (fun hb=>?_)|refine svb (fun b=>?_)|fail))
            exact ⟨x + 1, ⟨by omega, by omega, by rw [← g3, ← up_go gj (by simp only [lessA]; rw [arr_get, arr_get, hlt])]⟩, lee, by omega⟩
    rintro i2 ⟨hi2, k1, k2⟩
    have k5 : i ≤ i2 := by rw [hi2]; exact scanUp_ge _ _ _ _
    rw [← hi2] at w5
    refine W.mid (J := fun x : Nat => ⟨168, [(10, .val (.int .i64 (i2 : Int))), (11, .val (.int .i64 (x : Int))), (1, .val (.int .i64 (a : Int))), (0, .val v)], .own v 1 (ints .i64 q) 3 :: h⟩) (Φ := fun x => x = scanDown (geA a q) q.toArray i2 j ∧ i2 ≤ x + 1 ∧ x ≤ j) ?_ ?_
    · (repeat' (first|refine svz ⟨fun b hq=>?_⟩|refine svW ⟨?_⟩|refine svu ⟨fun u=>?_⟩|(refine svG (fun hc=>?_) (fun hc=>?_)<;>try exact svx)|refine svh (fun hb=>?_) (fun hb=>?_)|refine svb (fun b=>?_)|fail))
      refine W.loop (J := fun x : Nat => ⟨168, [(10, .val (.int .i64 (i2 : Int))), (11, .val (.int .i64 (x : Int))), (1, .val (.int .i64 (a : Int))), (0, .val v)], .own v 1 (ints .i64 q) 3 :: h⟩) (Φ := fun x => i2 ≤ x + 1 ∧ x ≤ j ∧ scanDown (geA a q) q.toArray i2 x = scanDown (geA a q) q.toArray i2 j) (μ := fun x => x) j lee ⟨by omega, by omega, rfl⟩ ?_
      rintro x ⟨g1, g2, g3⟩
      rcases Nat.lt_or_ge x i2 with gj | gj
      · (repeat' (first|refine svz ⟨fun b hq=>?_⟩|refine svW ⟨?_⟩|refine svu ⟨fun u=>?_⟩|(refine svG (fun hc=>?_) (fun hc=>?_)<;>try exact svx)|refine svh (fun hb=>?_) (fun hb=>?_)|refine svb (fun b=>?_)|fail))
        refine W.dend (.done _) ?_
        refine D.T 0 ?_; refine D.T 1 ?_; refine D.T 2 ?_; refine D.T 3 ?_; refine D.S 4 ?_; refine D.S 5 ?_; refine D.S 6 ?_; refine D.S 7 ?_; refine D.S 8 ?_; refine D.S 9 ?_; refine D.S 10 ?_; refine D.S 11 ?_; refine D.S 12 ?_; refine D.S 13 ?_; refine D.T 14 ?_
        refine D.E ?_
        (repeat' (first|refine svz ⟨fun b hq=>?_⟩|refine svW ⟨?_⟩|refine svu ⟨fun u=>?_⟩|(refine svG (fun hc=>?_) (fun hc=>?_)<;>try exact svx)|refine svh (fun hb=>?_) (fun hb=>?_)|refine svb (fun b=>?_)|fail))
        exact ⟨x, ⟨by rw [← g3, down_stop (.inl gj)], by omega, by omega⟩, lee⟩
      · have hq0 : a < q.length := by omega
        have hq1 : x < q.length := by omega
        refine W.seq ?_
        refine W.mid (J := fun y : Bool => ⟨168, [(129, .val (.bool y)), (10, .val (.int .i64 (i2 : Int))), (11, .val (.int .i64 (x : Int))), (1, .val (.int .i64 (a : Int))), (0, .val v)], .own v 1 (ints .i64 q) 3 :: h⟩) (Φ := fun y => y = (!ltInt (q.getD x 0) (q.getD a 0))) ?_ ?_
        · refine W.dend (.ro (.done _)) ?_
          refine D.T 0 ?_; refine D.T 1 ?_; refine D.T 2 ?_; refine D.T 3 ?_; refine D.T 4 ?_; refine D.T 5 ?_; refine D.T 6 ?_; refine D.T 7 ?_; refine D.T 8 ?_; refine D.T 9 ?_; refine D.T 10 ?_; refine D.T 11 ?_
          refine D.B1 12 ?_
          rw [getD_at (l := q), getD_at (l := q)]
          refine S.call ?_
          refine (less_c (q.getD x 0) (q.getD a 0) _).mono ?_
          rintro r h' ⟨rfl, hh⟩
          subst hh
          refine D.V 13 ?_; refine D.V 14 ?_
          refine D.E ?_
          refine thn ?_
          exact ⟨decide (¬ q.getD x 0 < q.getD a 0), by unfold ltInt; rw [decide_not], lee⟩
        · rintro y rfl
          cases hlt : ltInt (q.getD x 0) (q.getD a 0)
          · (repeat' (first|refine svz ⟨fun b hq=>?_⟩|refine svW ⟨?_⟩|refine svu ⟨fun u=>?_⟩|(refine svG (fun hc=>?_) (fun hc=>?_)<;>try exact svx)|refine svh (fun hb=>?_) (fun hb=>?_)|refine svb (fun b=>?_)|fail))
            exact ⟨x - 1, ⟨by omega, by omega, by rw [← g3, ← down_go (by omega) gj (by simp only [geA]; rw [arr_get, arr_get, hlt]; rfl)]⟩, by rw [show (((x - 1 : Nat) : Int)) = (x : Int) - 1 by omega]; exact lee, by omega⟩
          · (repeat' (first|refine svz ⟨fun b hq=>?_⟩|refine svW ⟨?_⟩|refine svu ⟨fun u=>?_⟩|(refine svG (fun hc=>?_) (fun hc=>?_)<;>try exact svx)|refine svh (fun hb=>?_) (fun hb=>?_)|refine svb (fun b=>?_)|fail))
            exact ⟨x, ⟨by rw [← g3, down_stop (.inr (by simp only [geA]; rw [arr_get, arr_get, hlt]; rfl))], by omega, by omega⟩, lee⟩
    rintro j2 ⟨hj2, k3, k4⟩
    rw [← hj2] at w5
    have hq2 : a < q.length := by omega
    have hq3 : j2 < q.length := by omega
    rcases Nat.lt_or_ge j2 i2 with hgt | hle
    · rw [if_pos hgt] at w5
      subst w5
      (repeat' (first|refine svz ⟨fun b hq=>?_⟩|refine svW ⟨?_⟩|refine svu ⟨fun u=>?_⟩|(refine svG (fun hc=>?_) (fun hc=>?_)<;>try exact svx)|refine svh (fun hb=>?_) (fun hb=>?_)|refine svb (fun b=>?_)|fail))
      refine W.midB (J := fun _ : Unit => ⟨168, [(11, .val (.int .i64 (j2 : Int))), (1, .val (.int .i64 (a : Int))), (0, .val v)], .own v 1 (ints .i64 (swpL q j2 a)) 3 :: h⟩) (Φ := fun _ => True) inT ?_ ?_
      · (refine W.dend (.done _) ?_; refine D.T 0 ?_; refine D.T 1 ?_; refine D.T 2 ?_; refine D.T 3 ?_; refine D.T 4 ?_; refine D.T 5 ?_; refine D.V 6 ?_; refine D.T 8 ?_; refine D.T 9 ?_; refine D.V 10 ?_; refine D.B2 7 11 ?_ ?_; (refine S.L ?_; refine D.BL 11 ?_; refine S.L ?_; refine D.V 12 ?_; refine D.BL 13 ?_; refine S.store_elem ?_; refine D.V 14 ?_; refine D.BL 15 ?_; refine S.store_elem ?_; refine D.E ?_; refine thn ?_; refine ⟨(), trivial, ?_⟩; simp only [ints_set, getD_at, hix]; exact lee); (refine S.L ?_; refine D.BL 7 ?_; refine S.L ?_; refine D.V 12 ?_; refine D.BL 13 ?_; refine S.store_elem ?_; refine D.V 14 ?_; refine D.BL 15 ?_; refine S.store_elem ?_; refine D.E ?_; refine thn ?_; refine ⟨(), trivial, ?_⟩; simp only [ints_set, getD_at, hix]; exact lee))
      rintro _ _
      (repeat' (first|refine svz ⟨fun b hq=>?_⟩|refine svW ⟨?_⟩|refine svu ⟨fun u=>?_⟩|(refine svG (fun hc=>?_) (fun hc=>?_)<;>try exact svx)|refine svh (fun hb=>?_) (fun hb=>?_)|refine svb (fun b=>?_)|fail))
      exact fin_r (h' := .own v 1 (ints .i64 (swpL q j2 a)) 3 :: h) ⟨swpL q j2 a, rfl, rfl, swpL_arr _ _ _⟩
    · rw [if_neg (by omega)] at w5
      have hne : i2 ≠ j2 := fun e => by
        have r1 := up_res (p := lessA a q) (d := q.toArray) (j := j) _ i (Nat.le_refl _) (by rw [← hi2]; omega)
        have r2 := down_res (p := geA a q) (d := q.toArray) (i := i2) (by omega) j (by rw [← hj2]; omega)
        rw [← hi2] at r1; rw [← hj2, ← e] at r2
        simp only [lessA] at r1; simp only [geA] at r2; rw [r1] at r2; cases r2
      have hq4 : i2 < q.length := by omega
      (repeat' (first|refine svz ⟨fun b hq=>?_⟩|refine svW ⟨?_⟩|refine svu ⟨fun u=>?_⟩|(refine svG (fun hc=>?_) (fun hc=>?_)<;>try exact svx)|refine svh (fun hb=>?_) (fun hb=>?_)|refine svb (fun b=>?_)|fail))
      refine W.midB (J := fun _ : Unit => ⟨168, [(10, .val (.int .i64 (i2 : Int))), (11, .val (.int .i64 (j2 : Int))), (1, .val (.int .i64 (a : Int))), (0, .val v)], .own v 1 (ints .i64 (swpL q i2 j2)) 3 :: h⟩) (Φ := fun _ => True) inT ?_ ?_
      · (refine W.dend (.done _) ?_; refine D.T 0 ?_; refine D.T 1 ?_; refine D.T 2 ?_; refine D.T 3 ?_; refine D.T 4 ?_; refine D.T 5 ?_; refine D.V 6 ?_; refine D.T 8 ?_; refine D.T 9 ?_; refine D.V 10 ?_; refine D.B2 7 11 ?_ ?_; (refine S.L ?_; refine D.BL 11 ?_; refine S.L ?_; refine D.V 12 ?_; refine D.BL 13 ?_; refine S.store_elem ?_; refine D.V 14 ?_; refine D.BL 15 ?_; refine S.store_elem ?_; refine D.E ?_; refine thn ?_; refine ⟨(), trivial, ?_⟩; simp only [ints_set, getD_at, hix]; exact lee); (refine S.L ?_; refine D.BL 7 ?_; refine S.L ?_; refine D.V 12 ?_; refine D.BL 13 ?_; refine S.store_elem ?_; refine D.V 14 ?_; refine D.BL 15 ?_; refine S.store_elem ?_; refine D.E ?_; refine thn ?_; refine ⟨(), trivial, ?_⟩; simp only [ints_set, getD_at, hix]; exact lee))
      rintro _ _
      (repeat' (first|refine svz ⟨fun b hq=>?_⟩|refine svW ⟨?_⟩|refine svu ⟨fun u=>?_⟩|(refine svG (fun hc=>?_) (fun hc=>?_)<;>try exact svx)|refine svh (fun hb=>?_) (fun hb=>?_)|refine svb (fun b=>?_)|fail))
      exact ⟨(i2 + 1, j2 - 1, swpL q i2 j2), ⟨by dsimp only; omega, by dsimp only; omega, by dsimp only; omega, by rw [swpL_length]; exact hql, by dsimp only; rw [swpL_arr]; exact w5⟩, by dsimp only; rw [show (((j2 - 1 : Nat) : Int)) = (j2 : Int) - 1 by omega]; exact lee, by dsimp only; omega⟩
end Go.Proofs.YtfbegifmhgkpjaaGreat
