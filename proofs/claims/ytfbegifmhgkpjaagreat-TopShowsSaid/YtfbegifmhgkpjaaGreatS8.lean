import Derived.Test.YtfbegifmhgkpjaaGreatS7
namespace Go.Proofs.YtfbegifmhgkpjaaGreat
open Go Go.VM Go.Sort
attribute [local irreducible] PurV Pur Step RL W D ACalls Then InBlock Fini
set_option linter.unusedVariables false
set_option linter.unusedSimpArgs false
set_option maxHeartbeats 20000000
theorem ss_go {d : Array Int} {b i : Nat} (h : i < b) (hp : ltInt d[i]! d[i - 1]! = false) : scanSorted ltInt d b (i + 1) = scanSorted ltInt d b i := by
  conv => rhs; rw [scanSorted, if_pos (by simp [h, hp])]
theorem ss_stop {d : Array Int} {b i : Nat} (h : b ≤ i ∨ ltInt d[i]! d[i - 1]! = true) : scanSorted ltInt d b i = i := by
  rw [scanSorted, if_neg]
  rcases h with h | h
  · simp; omega
  · simp [h]
theorem sd_go {d : Array Int} {j : Nat} (h : 1 ≤ j) (hp : ltInt d[j]! d[j - 1]! = true) : Go.Sort.shiftDown ltInt (j - 1) (swp d j (j - 1)) = Go.Sort.shiftDown ltInt j d := by
  obtain ⟨j, rfl⟩ : ∃ k, j = k + 1 := ⟨j - 1, by omega⟩
  conv => rhs; rw [Go.Sort.shiftDown]
  simp only [Nat.add_sub_cancel] at hp ⊢
  rw [if_neg (by simp [hp])]
theorem sd_stop {d : Array Int} {j : Nat} (h : j = 0 ∨ ltInt d[j]! d[j - 1]! = false) : Go.Sort.shiftDown ltInt j d = d := by
  cases j with
  | zero => rfl
  | succ j =>
    rw [Go.Sort.shiftDown, if_pos]
    rcases h with h | h
    · omega
    · simpa using h
theorem su_go {d : Array Int} {b j : Nat} (h : j < b) (hp : ltInt d[j]! d[j - 1]! = true) : shiftUp ltInt b (j + 1) (swp d j (j - 1)) = shiftUp ltInt b j d := by
  conv => rhs; rw [shiftUp, if_pos h, if_neg (by simp [hp])]
theorem su_stop {d : Array Int} {b j : Nat} (h : b ≤ j ∨ ltInt d[j]! d[j - 1]! = false) : shiftUp ltInt b j d = d := by
  rw [shiftUp]
  rcases h with h | h
  · rw [if_neg (by omega)]
  · split
    · rw [if_pos (by simp [h])]
    · rfl
set_option maxRecDepth 100000 in
theorem pis_c (l : List Int) (a b : Nat) (v : Value) (h : Heap) (hab : a < b) (hb : b ≤ l.length) (hn : l.length ≤ 1000000000000) :
    ACalls Tryz.prog 150 [.val v, .val (.int .i64 (a : Int)), .val (.int .i64 (b : Int))] (.own v 1 (ints .i64 l) 3 :: h)
      (fun r h' => ∃ l', r = .val (.bool (partialInsertionSort ltInt l.toArray a b).2) ∧ h' = .own v 1 (ints .i64 l') 3 :: h ∧ l'.length = l.length ∧ l'.toArray = (partialInsertionSort ltInt l.toArray a b).1) := by
  obtain ⟨R, hR⟩ : ∃ R, R = partialInsertionSort ltInt l.toArray a b := ⟨_, rfl⟩
  rw [← hR]
  refine ACalls.intro Tryz.func150 rfl Tryz.ntmps150 Tryz.results150 (Nat.le_of_ble_eq_true rfl) ?_
  (repeat' (first|refine svz ⟨fun b hq=>?_⟩|refine svW ⟨?_⟩|refine svu ⟨fun u=>?_⟩|(refine svG (fun hc=>?_) (fun hc=>?_)<;>try exact svx)|refine svh (fun hb=>?_) (fun hb=>?_)|refine svb (fun b=>?_)|fail))
  refine W.loop (J := fun x : Nat × Nat × List Int => ⟨133, [(8, .val (.int .i64 (x.1 : Int))), (7, .val (.int .i64 (x.2.1 : Int))), (6, .val (.bool false)), (2, .val (.int .i64 (b : Int))), (1, .val (.int .i64 (a : Int))), (0, .val v)], .own v 1 (ints .i64 x.2.2) 3 :: h⟩)
    (Φ := fun x => x.1 ≤ 5 ∧ a < x.2.1 ∧ x.2.1 ≤ b ∧ x.2.2.length = l.length ∧ partialIns ltInt a b (5 - x.1) x.2.1 x.2.2.toArray = R) (μ := fun x => 5 - x.1) (0, a + 1, l) lee ⟨by dsimp only; omega, by dsimp only; omega, by dsimp only; omega, rfl, hR.symm⟩ ?_
  rintro ⟨s, i, q⟩ ⟨w0, w1, w2, hql, w5⟩
  dsimp only at w0 w1 w2 hql w5 ⊢
  rcases Nat.lt_or_ge s 5 with hs | hs
  · obtain ⟨k, hk⟩ : ∃ k, 5 - s = k + 1 := ⟨5 - s - 1, by omega⟩
    rw [hk, partialIns_succ] at w5
    (repeat' (first | refine svz ⟨fun b hq=>?_⟩|refine sw1 ?_|refine svs ⟨?_⟩|refine sv2 ?_|refine svu ⟨fun u=>?_⟩|(refine svG (fun hc=>?_) (fun hc=>?_)<;>try exact svx)|refine svh (fun hb=>?_) (fun hb=>?_)|refine svb (fun b=>?_) | fail))
    refine W.seq ?_
    (repeat' (first | refine svz ⟨fun b hq=>?_⟩|refine sw1 ?_|refine svs ⟨?_⟩|refine sv2 ?_|refine svu ⟨fun u=>?_⟩|(refine svG (fun hc=>?_) (fun hc=>?_)<;>try exact svx)|refine svh (fun hb=>?_) (fun hb=>?_)|refine svb (fun b=>?_) | fail))
    refine W.seq ?_
    refine W.block ?_
    refine W.mid (J := fun x : Nat => ⟨133, [(8, .val (.int .i64 (s : Int))), (7, .val (.int .i64 (x : Int))), (6, .val (.bool false)), (2, .val (.int .i64 (b : Int))), (1, .val (.int .i64 (a : Int))), (0, .val v)], .own v 1 (ints .i64 q) 3 :: h⟩) (Φ := fun x => x = scanSorted ltInt q.toArray b i ∧ a < x ∧ x ≤ b) ?_ ?_
    · (repeat' (first|refine svz ⟨fun b hq=>?_⟩|refine svW ⟨?_⟩|refine svu ⟨fun u=>?_⟩|(refine svG (fun hc=>?_) (fun hc=>?_)<;>try exact svx)|refine svh (fun hb=>?_) (fun hb=>?_)|refine svb (fun b=>?_)|fail))
      refine W.loop (J := fun x : Nat => ⟨133, [(8, .val (.int .i64 (s : Int))), (7, .val (.int .i64 (x : Int))), (6, .val (.bool false)), (2, .val (.int .i64 (b : Int))), (1, .val (.int .i64 (a : Int))), (0, .val v)], .own v 1 (ints .i64 q) 3 :: h⟩) (Φ := fun x => a < x ∧ x ≤ b ∧ scanSorted ltInt q.toArray b x = scanSorted ltInt q.toArray b i) (μ := fun x => b - x) i lee ⟨w1, w2, rfl⟩ ?_
      rintro x ⟨g1, g2, g3⟩
      rcases Nat.lt_or_ge x b with gj | gj
      · have hq0 : x < q.length := by omega
        have hq1 : x - 1 < q.length := by omega
        have hix : (((x : Nat) : Int) - 1).toNat = x - 1 := by omega
        refine W.seq ?_
        refine W.mid (J := fun y : Bool => ⟨133, [(32, .val (.bool y)), (8, .val (.int .i64 (s : Int))), (7, .val (.int .i64 (x : Int))), (6, .val (.bool false)), (2, .val (.int .i64 (b : Int))), (1, .val (.int .i64 (a : Int))), (0, .val v)], .own v 1 (ints .i64 q) 3 :: h⟩) (Φ := fun y => y = (!ltInt (q.getD x 0) (q.getD (x - 1) 0))) ?_ ?_
        · refine W.dend (.ro (.done _)) ?_
          refine D.T 0 ?_; refine D.T 1 ?_; refine D.T 2 ?_; refine D.T 3 ?_; refine D.T 4 ?_; refine D.T 5 ?_; refine D.T 6 ?_; refine D.T 7 ?_; refine D.T 8 ?_; refine D.T 9 ?_; refine D.T 10 ?_; refine D.T 11 ?_; refine D.T 12 ?_
          refine D.B1 13 ?_
          rw [getD_at (l := q), getD_at (l := q), hix]
          refine S.call ?_
          refine (less_c (q.getD x 0) (q.getD (x - 1) 0) _).mono ?_
          rintro r h' ⟨rfl, hh⟩
          subst hh
          refine D.V 14 ?_; refine D.V 15 ?_
          refine D.E ?_
          refine thn ?_
          exact ⟨decide (¬ q.getD x 0 < q.getD (x - 1) 0), by unfold ltInt; rw [decide_not], lee⟩
        · rintro y rfl
          cases hlt : ltInt (q.getD x 0) (q.getD (x - 1) 0)
          · (repeat' (first|refine svz ⟨fun b hq=>?_⟩|refine svW ⟨?_⟩|refine svu ⟨fun u=>?_⟩|(refine svG (fun hc=>?_) (fun hc=>?_)<;>try exact svx)|refine svh (fun hb=>?_) (fun hb=>?_)|refine svb (fun b=>?_)|fail))
            exact ⟨x + 1, ⟨by omega, by omega, by rw [← g3, ss_go gj (by rw [arr_get, arr_get]; exact hlt)]⟩, lee, by omega⟩
          · (repeat' (first|refine svz ⟨fun b hq=>?_⟩|refine svW ⟨?_⟩|refine svu ⟨fun u=>?_⟩|(refine svG (fun hc=>?_) (fun hc=>?_)<;>try exact svx)|refine svh (fun hb=>?_) (fun hb=>?_)|refine svb (fun b=>?_)|fail))
            exact ⟨x, ⟨by rw [← g3, ss_stop (.inr (by rw [arr_get, arr_get]; exact hlt))], g1, g2⟩, lee⟩
      · (repeat' (first|refine svz ⟨fun b hq=>?_⟩|refine svW ⟨?_⟩|refine svu ⟨fun u=>?_⟩|(refine svG (fun hc=>?_) (fun hc=>?_)<;>try exact svx)|refine svh (fun hb=>?_) (fun hb=>?_)|refine svb (fun b=>?_)|fail))
        refine W.dend (.done _) ?_
        refine D.T 0 ?_; refine D.T 1 ?_; refine D.T 2 ?_; refine D.T 3 ?_; refine D.S 4 ?_; refine D.S 5 ?_; refine D.S 6 ?_; refine D.S 7 ?_; refine D.S 8 ?_; refine D.S 9 ?_; refine D.S 10 ?_; refine D.S 11 ?_; refine D.S 12 ?_; refine D.S 13 ?_; refine D.S 14 ?_; refine D.T 15 ?_
        refine D.E ?_
        (repeat' (first|refine svz ⟨fun b hq=>?_⟩|refine svW ⟨?_⟩|refine svu ⟨fun u=>?_⟩|(refine svG (fun hc=>?_) (fun hc=>?_)<;>try exact svx)|refine svh (fun hb=>?_) (fun hb=>?_)|refine svb (fun b=>?_)|fail))
        exact ⟨x, ⟨by rw [← g3, ss_stop (.inl gj)], g1, g2⟩, lee⟩
    rintro i2 ⟨hi2, k1, k2⟩
    rw [← hi2] at w5
    by_cases e : i2 = b
    · rw [if_pos e] at w5
      subst w5
      subst e
      (repeat' (first|refine svz ⟨fun b hq=>?_⟩|refine svW ⟨?_⟩|refine svu ⟨fun u=>?_⟩|(refine svG (fun hc=>?_) (fun hc=>?_)<;>try exact svx)|refine svh (fun hb=>?_) (fun hb=>?_)|refine svb (fun b=>?_)|fail))
      exact fin_r (h' := .own v 1 (ints .i64 q) 3 :: h) ⟨q, rfl, rfl, hql, rfl⟩
    rw [if_neg e] at w5
    rcases Nat.lt_or_ge (b - a) 50 with h50 | h50
    · rw [if_pos h50] at w5
      subst w5
      (repeat' (first|refine svz ⟨fun b hq=>?_⟩|refine svW ⟨?_⟩|refine svu ⟨fun u=>?_⟩|(refine svG (fun hc=>?_) (fun hc=>?_)<;>try exact svx)|refine svh (fun hb=>?_) (fun hb=>?_)|refine svb (fun b=>?_)|fail))
      exact fin_r (h' := .own v 1 (ints .i64 q) 3 :: h) ⟨q, rfl, rfl, hql, rfl⟩
    rw [if_neg (by omega)] at w5
    have hq0 : i2 < q.length := by omega
    have hq1 : i2 - 1 < q.length := by omega
    have hix2 : (((i2 : Nat) : Int) - 1).toNat = i2 - 1 := by omega
    (repeat' (first|refine svz ⟨fun b hq=>?_⟩|refine svW ⟨?_⟩|refine svu ⟨fun u=>?_⟩|(refine svG (fun hc=>?_) (fun hc=>?_)<;>try exact svx)|refine svh (fun hb=>?_) (fun hb=>?_)|refine svb (fun b=>?_)|fail))
    refine W.midB (J := fun _ : Unit => ⟨133, [(8, .val (.int .i64 (s : Int))), (7, .val (.int .i64 (i2 : Int))), (6, .val (.bool false)), (2, .val (.int .i64 (b : Int))), (1, .val (.int .i64 (a : Int))), (0, .val v)], .own v 1 (ints .i64 (swpL q i2 (i2 - 1))) 3 :: h⟩) (Φ := fun _ => True) inT ?_ ?_
    · (refine W.dend (.done _) ?_; refine D.T 0 ?_; refine D.T 1 ?_; refine D.T 2 ?_; refine D.T 3 ?_; refine D.T 4 ?_; refine D.T 5 ?_; refine D.T 6 ?_; refine D.T 7 ?_; refine D.V 8 ?_; refine D.T 10 ?_; refine D.T 11 ?_; refine D.V 12 ?_; refine D.B2 9 13 ?_ ?_; (refine S.L ?_; refine D.BL 13 ?_; refine S.L ?_; refine D.V 14 ?_; refine D.BL 15 ?_; refine S.store_elem ?_; refine D.V 16 ?_; refine D.BL 17 ?_; refine S.store_elem ?_; refine D.E ?_; refine thn ?_; refine ⟨(), trivial, ?_⟩; simp only [ints_set, getD_at, hix2]; exact lee); (refine S.L ?_; refine D.BL 9 ?_; refine S.L ?_; refine D.V 14 ?_; refine D.BL 15 ?_; refine S.store_elem ?_; refine D.V 16 ?_; refine D.BL 17 ?_; refine S.store_elem ?_; refine D.E ?_; refine thn ?_; refine ⟨(), trivial, ?_⟩; simp only [ints_set, getD_at, hix2]; exact lee))
    rintro _ _
    rw [← swpL_arr] at w5
    have hql0 : (swpL q i2 (i2 - 1)).length = l.length := by rw [swpL_length]; exact hql
    clear hql
    generalize swpL q i2 (i2 - 1) = q at *
    have hql := hql0
    (repeat' (first | refine svz ⟨fun b hq=>?_⟩|refine sw1 ?_|refine svs ⟨?_⟩|refine sv2 ?_|refine svu ⟨fun u=>?_⟩|(refine svG (fun hc=>?_) (fun hc=>?_)<;>try exact svx)|refine svh (fun hb=>?_) (fun hb=>?_)|refine svb (fun b=>?_) | fail))
    refine W.mid (J := fun m : List Int => ⟨133, [(8, .val (.int .i64 (s : Int))), (7, .val (.int .i64 (i2 : Int))), (6, .val (.bool false)), (2, .val (.int .i64 (b : Int))), (1, .val (.int .i64 (a : Int))), (0, .val v)], .own v 1 (ints .i64 m) 3 :: h⟩) (Φ := fun m => m.length = l.length ∧ m.toArray = fixDown ltInt a i2 q.toArray) ?_ ?_
    · rcases Nat.lt_or_ge (i2 - a) 2 with hd | hd
      · (repeat' (first|refine svz ⟨fun b hq=>?_⟩|refine svW ⟨?_⟩|refine svu ⟨fun u=>?_⟩|(refine svG (fun hc=>?_) (fun hc=>?_)<;>try exact svx)|refine svh (fun hb=>?_) (fun hb=>?_)|refine svb (fun b=>?_)|fail))
        exact ⟨q, ⟨hql, by unfold fixDown; rw [if_neg (by omega)]⟩, lee⟩
      · have hfx : fixDown ltInt a i2 q.toArray = Go.Sort.shiftDown ltInt (i2 - 1) q.toArray := if_pos hd
        (repeat' (first|refine svz ⟨fun b hq=>?_⟩|refine svW ⟨?_⟩|refine svu ⟨fun u=>?_⟩|(refine svG (fun hc=>?_) (fun hc=>?_)<;>try exact svx)|refine svh (fun hb=>?_) (fun hb=>?_)|refine svb (fun b=>?_)|fail))
        refine W.loop (J := fun x : Nat × List Int => ⟨133, [(9, .val (.int .i64 (x.1 : Int))), (8, .val (.int .i64 (s : Int))), (7, .val (.int .i64 (i2 : Int))), (6, .val (.bool false)), (2, .val (.int .i64 (b : Int))), (1, .val (.int .i64 (a : Int))), (0, .val v)], .own v 1 (ints .i64 x.2) 3 :: h⟩) (Φ := fun x => (x.1 ≤ i2 - 1) ∧ x.2.length = l.length ∧ Go.Sort.shiftDown ltInt (x.1) x.2.toArray = fixDown ltInt a i2 q.toArray) (μ := fun x => x.1) (i2 - 1, q) (by dsimp only; rw [show ((i2 - 1 : Nat) : Int) = (i2 : Int) - 1 by omega]; exact lee) ⟨by dsimp only; omega, hql, hfx.symm⟩ ?_
        rintro ⟨j, m⟩ ⟨g1, g2, g3⟩
        dsimp only at g1 g2 g3 ⊢
        rcases Nat.lt_or_ge 0 j with hj | hj
        · have hq0 : j < m.length := by omega
          have hq1 : j - 1 < m.length := by omega
          have hix : ((j : Nat) : Int) - 1 = ((j - 1 : Nat) : Int) := by omega
          have hix2 : (((j : Nat) : Int) - 1).toNat = j - 1 := by omega
          (repeat' (first | refine svz ⟨fun b hq=>?_⟩|refine sw1 ?_|refine svs ⟨?_⟩|refine sv2 ?_|refine svu ⟨fun u=>?_⟩|(refine svG (fun hc=>?_) (fun hc=>?_)<;>try exact svx)|refine svh (fun hb=>?_) (fun hb=>?_)|refine svb (fun b=>?_) | fail))
          refine W.seq ?_
          (repeat' (first | refine svz ⟨fun b hq=>?_⟩|refine sw1 ?_|refine svs ⟨?_⟩|refine sv2 ?_|refine svu ⟨fun u=>?_⟩|(refine svG (fun hc=>?_) (fun hc=>?_)<;>try exact svx)|refine svh (fun hb=>?_) (fun hb=>?_)|refine svb (fun b=>?_) | fail))
          refine W.seq ?_
          refine W.block ?_
          refine W.seq ?_
          refine W.mid (J := fun y : Bool => ⟨133, [(78, .val (.bool y)), (9, .val (.int .i64 (j : Int))), (8, .val (.int .i64 (s : Int))), (7, .val (.int .i64 (i2 : Int))), (6, .val (.bool false)), (2, .val (.int .i64 (b : Int))), (1, .val (.int .i64 (a : Int))), (0, .val v)], .own v 1 (ints .i64 m) 3 :: h⟩) (Φ := fun y => y = (!ltInt (m.getD j 0) (m.getD (j - 1) 0))) ?_ ?_
          · refine W.dend (.ro (.done _)) ?_
            refine D.T 0 ?_; refine D.T 1 ?_; refine D.T 2 ?_; refine D.T 3 ?_; refine D.T 4 ?_; refine D.T 5 ?_; refine D.T 6 ?_; refine D.T 7 ?_; refine D.T 8 ?_
            refine D.B1 9 ?_
            rw [getD_at (l := m), getD_at (l := m), hix2]
            refine S.call ?_
            refine (less_c (m.getD j 0) (m.getD (j - 1) 0) _).mono ?_
            rintro r h' ⟨rfl, hh⟩
            subst hh
            refine D.V 10 ?_
            refine D.E ?_
            refine thn ?_
            exact ⟨decide (¬ m.getD j 0 < m.getD (j - 1) 0), by unfold ltInt; rw [decide_not], lee⟩
          · rintro y rfl
            cases hlt : ltInt (m.getD j 0) (m.getD (j - 1) 0)
            · (repeat' (first|refine svz ⟨fun b hq=>?_⟩|refine svW ⟨?_⟩|refine svu ⟨fun u=>?_⟩|(refine svG (fun hc=>?_) (fun hc=>?_)<;>try exact svx)|refine svh (fun hb=>?_) (fun hb=>?_)|refine svb (fun b=>?_)|fail))
              exact ⟨m, ⟨g2, by rw [← g3, sd_stop (.inr (by rw [arr_get, arr_get]; exact hlt))]⟩, lee⟩
            · (repeat' (first|refine svz ⟨fun b hq=>?_⟩|refine svW ⟨?_⟩|refine svu ⟨fun u=>?_⟩|(refine svG (fun hc=>?_) (fun hc=>?_)<;>try exact svx)|refine svh (fun hb=>?_) (fun hb=>?_)|refine svb (fun b=>?_)|fail))
              refine W.midB (J := fun _ : Unit => ⟨133, [(9, .val (.int .i64 (j : Int))), (8, .val (.int .i64 (s : Int))), (7, .val (.int .i64 (i2 : Int))), (6, .val (.bool false)), (2, .val (.int .i64 (b : Int))), (1, .val (.int .i64 (a : Int))), (0, .val v)], .own v 1 (ints .i64 (swpL m j (j - 1))) 3 :: h⟩) (Φ := fun _ => True) inBT ?_ ?_
              · (refine W.dend (.done _) ?_; refine D.T 0 ?_; refine D.T 1 ?_; refine D.T 2 ?_; refine D.T 3 ?_; refine D.T 4 ?_; refine D.T 5 ?_; refine D.T 6 ?_; refine D.T 7 ?_; refine D.V 8 ?_; refine D.T 10 ?_; refine D.T 11 ?_; refine D.V 12 ?_; refine D.B2 9 13 ?_ ?_; (refine S.L ?_; refine D.BL 13 ?_; refine S.L ?_; refine D.V 14 ?_; refine D.BL 15 ?_; refine S.store_elem ?_; refine D.V 16 ?_; refine D.BL 17 ?_; refine S.store_elem ?_; refine D.E ?_; refine thn ?_; refine ⟨(), trivial, ?_⟩; simp only [ints_set, getD_at, hix2]; exact lee); (refine S.L ?_; refine D.BL 9 ?_; refine S.L ?_; refine D.V 14 ?_; refine D.BL 15 ?_; refine S.store_elem ?_; refine D.V 16 ?_; refine D.BL 17 ?_; refine S.store_elem ?_; refine D.E ?_; refine thn ?_; refine ⟨(), trivial, ?_⟩; simp only [ints_set, getD_at, hix2]; exact lee))
              · rintro _ _
                (repeat' (first|refine svz ⟨fun b hq=>?_⟩|refine svW ⟨?_⟩|refine svu ⟨fun u=>?_⟩|(refine svG (fun hc=>?_) (fun hc=>?_)<;>try exact svx)|refine svh (fun hb=>?_) (fun hb=>?_)|refine svb (fun b=>?_)|fail))
                exact ⟨(j - 1, swpL m j (j - 1)), ⟨by dsimp only; omega, by rw [swpL_length]; exact g2, by dsimp only; rw [swpL_arr, sd_go (by omega) (by rw [arr_get, arr_get]; exact hlt)]; exact g3⟩, by dsimp only; rw [← hix]; exact lee, by dsimp only; omega⟩
        · (repeat' (first|refine svz ⟨fun b hq=>?_⟩|refine svW ⟨?_⟩|refine svu ⟨fun u=>?_⟩|(refine svG (fun hc=>?_) (fun hc=>?_)<;>try exact svx)|refine svh (fun hb=>?_) (fun hb=>?_)|refine svb (fun b=>?_)|fail))
          exact ⟨m, ⟨g2, by rw [← g3, sd_stop (.inl (by omega))]⟩, lee⟩
    rintro m ⟨hml, hm⟩
    rw [← hm] at w5
    clear hql0 hql hm
    have hql := hml
    rename_i q0
    obtain ⟨q, hq⟩ : ∃ q, q = m := ⟨_, rfl⟩
    subst hq
    refine W.midB (J := fun m : List Int => ⟨133, [(8, .val (.int .i64 (s : Int))), (7, .val (.int .i64 (i2 : Int))), (6, .val (.bool false)), (2, .val (.int .i64 (b : Int))), (1, .val (.int .i64 (a : Int))), (0, .val v)], .own v 1 (ints .i64 m) 3 :: h⟩) (Φ := fun m => m.length = l.length ∧ m.toArray = fixUp ltInt b i2 q.toArray) inBT ?_ ?_
    · rcases Nat.lt_or_ge (b - i2) 2 with hd | hd
      · (repeat' (first|refine svz ⟨fun b hq=>?_⟩|refine svW ⟨?_⟩|refine svu ⟨fun u=>?_⟩|(refine svG (fun hc=>?_) (fun hc=>?_)<;>try exact svx)|refine svh (fun hb=>?_) (fun hb=>?_)|refine svb (fun b=>?_)|fail))
        exact ⟨q, ⟨hql, by unfold fixUp; rw [if_neg (by omega)]⟩, lee⟩
      · have hfx : fixUp ltInt b i2 q.toArray = shiftUp ltInt b (i2 + 1) q.toArray := if_pos hd
        (repeat' (first|refine svz ⟨fun b hq=>?_⟩|refine svW ⟨?_⟩|refine svu ⟨fun u=>?_⟩|(refine svG (fun hc=>?_) (fun hc=>?_)<;>try exact svx)|refine svh (fun hb=>?_) (fun hb=>?_)|refine svb (fun b=>?_)|fail))
        refine W.loop (J := fun x : Nat × List Int => ⟨133, [(10, .val (.int .i64 (x.1 : Int))), (8, .val (.int .i64 (s : Int))), (7, .val (.int .i64 (i2 : Int))), (6, .val (.bool false)), (2, .val (.int .i64 (b : Int))), (1, .val (.int .i64 (a : Int))), (0, .val v)], .own v 1 (ints .i64 x.2) 3 :: h⟩) (Φ := fun x => (i2 + 1 ≤ x.1 ∧ x.1 ≤ b) ∧ x.2.length = l.length ∧ shiftUp ltInt b (x.1) x.2.toArray = fixUp ltInt b i2 q.toArray) (μ := fun x => b - x.1) (i2 + 1, q) (by dsimp only; rw [show ((i2 + 1 : Nat) : Int) = (i2 : Int) + 1 by omega]; exact lee) ⟨by dsimp only; omega, hql, hfx.symm⟩ ?_
        rintro ⟨j, m⟩ ⟨g1, g2, g3⟩
        dsimp only at g1 g2 g3 ⊢
        rcases Nat.lt_or_ge j b with hj | hj
        · have hq0 : j < m.length := by omega
          have hq1 : j - 1 < m.length := by omega
          have hix : ((j : Nat) : Int) - 1 = ((j - 1 : Nat) : Int) := by omega
          have hix2 : (((j : Nat) : Int) - 1).toNat = j - 1 := by omega
          (repeat' (first | refine svz ⟨fun b hq=>?_⟩|refine sw1 ?_|refine svs ⟨?_⟩|refine sv2 ?_|refine svu ⟨fun u=>?_⟩|(refine svG (fun hc=>?_) (fun hc=>?_)<;>try exact svx)|refine svh (fun hb=>?_) (fun hb=>?_)|refine svb (fun b=>?_) | fail))
          refine W.seq ?_
          (repeat' (first | refine svz ⟨fun b hq=>?_⟩|refine sw1 ?_|refine svs ⟨?_⟩|refine sv2 ?_|refine svu ⟨fun u=>?_⟩|(refine svG (fun hc=>?_) (fun hc=>?_)<;>try exact svx)|refine svh (fun hb=>?_) (fun hb=>?_)|refine svb (fun b=>?_) | fail))
          refine W.seq ?_
          refine W.block ?_
          refine W.seq ?_
          refine W.mid (J := fun y : Bool => ⟨133, [(116, .val (.bool y)), (10, .val (.int .i64 (j : Int))), (8, .val (.int .i64 (s : Int))), (7, .val (.int .i64 (i2 : Int))), (6, .val (.bool false)), (2, .val (.int .i64 (b : Int))), (1, .val (.int .i64 (a : Int))), (0, .val v)], .own v 1 (ints .i64 m) 3 :: h⟩) (Φ := fun y => y = (!ltInt (m.getD j 0) (m.getD (j - 1) 0))) ?_ ?_
          · refine W.dend (.ro (.done _)) ?_
            refine D.T 0 ?_; refine D.T 1 ?_; refine D.T 2 ?_; refine D.T 3 ?_; refine D.T 4 ?_; refine D.T 5 ?_; refine D.T 6 ?_; refine D.T 7 ?_; refine D.T 8 ?_
            refine D.B1 9 ?_
            rw [getD_at (l := m), getD_at (l := m), hix2]
            refine S.call ?_
            refine (less_c (m.getD j 0) (m.getD (j - 1) 0) _).mono ?_
            rintro r h' ⟨rfl, hh⟩
            subst hh
            refine D.V 10 ?_
            refine D.E ?_
            refine thn ?_
            exact ⟨decide (¬ m.getD j 0 < m.getD (j - 1) 0), by unfold ltInt; rw [decide_not], lee⟩
          · rintro y rfl
            cases hlt : ltInt (m.getD j 0) (m.getD (j - 1) 0)
            · (repeat' (first|refine svz ⟨fun b hq=>?_⟩|refine svW ⟨?_⟩|refine svu ⟨fun u=>?_⟩|(refine svG (fun hc=>?_) (fun hc=>?_)<;>try exact svx)|refine svh (fun hb=>?_) (fun hb=>?_)|refine svb (fun b=>?_)|fail))
              exact ⟨m, ⟨g2, by rw [← g3, su_stop (.inr (by rw [arr_get, arr_get]; exact hlt))]⟩, lee⟩
            · (repeat' (first|refine svz ⟨fun b hq=>?_⟩|refine svW ⟨?_⟩|refine svu ⟨fun u=>?_⟩|(refine svG (fun hc=>?_) (fun hc=>?_)<;>try exact svx)|refine svh (fun hb=>?_) (fun hb=>?_)|refine svb (fun b=>?_)|fail))
              refine W.midB (J := fun _ : Unit => ⟨133, [(10, .val (.int .i64 (j : Int))), (8, .val (.int .i64 (s : Int))), (7, .val (.int .i64 (i2 : Int))), (6, .val (.bool false)), (2, .val (.int .i64 (b : Int))), (1, .val (.int .i64 (a : Int))), (0, .val v)], .own v 1 (ints .i64 (swpL m j (j - 1))) 3 :: h⟩) (Φ := fun _ => True) inBT ?_ ?_
              · (refine W.dend (.done _) ?_; refine D.T 0 ?_; refine D.T 1 ?_; refine D.T 2 ?_; refine D.T 3 ?_; refine D.T 4 ?_; refine D.T 5 ?_; refine D.T 6 ?_; refine D.T 7 ?_; refine D.V 8 ?_; refine D.T 10 ?_; refine D.T 11 ?_; refine D.V 12 ?_; refine D.B2 9 13 ?_ ?_; (refine S.L ?_; refine D.BL 13 ?_; refine S.L ?_; refine D.V 14 ?_; refine D.BL 15 ?_; refine S.store_elem ?_; refine D.V 16 ?_; refine D.BL 17 ?_; refine S.store_elem ?_; refine D.E ?_; refine thn ?_; refine ⟨(), trivial, ?_⟩; simp only [ints_set, getD_at, hix2]; exact lee); (refine S.L ?_; refine D.BL 9 ?_; refine S.L ?_; refine D.V 14 ?_; refine D.BL 15 ?_; refine S.store_elem ?_; refine D.V 16 ?_; refine D.BL 17 ?_; refine S.store_elem ?_; refine D.E ?_; refine thn ?_; refine ⟨(), trivial, ?_⟩; simp only [ints_set, getD_at, hix2]; exact lee))
              · rintro _ _
                (repeat' (first|refine svz ⟨fun b hq=>?_⟩|refine svW ⟨?_⟩|refine svu ⟨fun u=>?_⟩|(refine svG (fun hc=>?_) (fun hc=>?_)<;>try exact svx)|refine svh (fun hb=>?_) (fun hb=>?_)|refine svb (fun b=>?_)|fail))
                exact ⟨(j + 1, swpL m j (j - 1)), ⟨by dsimp only; omega, by rw [swpL_length]; exact g2, by dsimp only; rw [swpL_arr, su_go hj (by rw [arr_get, arr_get]; exact hlt)]; exact g3⟩, lee, by dsimp only; omega⟩
        · (repeat' (first|refine svz ⟨fun b hq=>?_⟩|refine svW ⟨?_⟩|refine svu ⟨fun u=>?_⟩|(refine svG (fun hc=>?_) (fun hc=>?_)<;>try exact svx)|refine svh (fun hb=>?_) (fun hb=>?_)|refine svb (fun b=>?_)|fail))
          exact ⟨m, ⟨g2, by rw [← g3, su_stop (.inl (by omega))]⟩, lee⟩
    rintro m2 ⟨hml2, hm2⟩
    rw [← hm2] at w5
    (repeat' (first|refine svz ⟨fun b hq=>?_⟩|refine svW ⟨?_⟩|refine svu ⟨fun u=>?_⟩|(refine svG (fun hc=>?_) (fun hc=>?_)<;>try exact svx)|refine svh (fun hb=>?_) (fun hb=>?_)|refine svb (fun b=>?_)|fail))
    exact ⟨(s + 1, i2, m2), ⟨by dsimp only; omega, k1, k2, hml2, by dsimp only; rw [show 5 - (s + 1) = k by omega]; exact w5⟩, lee, by dsimp only; omega⟩
  · rw [show 5 - s = 0 by omega] at w5
    subst w5
    (repeat' (first|refine svz ⟨fun b hq=>?_⟩|refine svW ⟨?_⟩|refine svu ⟨fun u=>?_⟩|(refine svG (fun hc=>?_) (fun hc=>?_)<;>try exact svx)|refine svh (fun hb=>?_) (fun hb=>?_)|refine svb (fun b=>?_)|fail))
    exact fin_r (h' := .own v 1 (ints .i64 q) 3 :: h) ⟨q, rfl, rfl, hql, rfl⟩
end Go.Proofs.YtfbegifmhgkpjaaGreat
