import Derived.Test.YtfbegifmhgkpjaaGreatS3
namespace Go.Proofs.YtfbegifmhgkpjaaGreat
open Go Go.VM Go.Sort
attribute [local irreducible] PurV Pur Step RL W D ACalls Then InBlock Fini
set_option linter.unusedVariables false
set_option linter.unusedSimpArgs false
set_option maxHeartbeats 20000000
def selC (d : Array Int) (hi first c : Nat) : Nat := if c + 1 < hi ∧ ltInt d[first + c]! d[first + (c + 1)]! = true then c + 1 else c
theorem sift_done {d : Array Int} {hi first root : Nat} (h : hi ≤ 2 * root + 1) : siftDown ltInt hi first root d = d := by
  rw [siftDown, dif_pos h]
theorem sift_go {d : Array Int} {hi first root : Nat} (h : 2 * root + 1 < hi) : siftDown ltInt hi first root d =
    if ltInt d[first + root]! d[first + selC d hi first (2 * root + 1)]! = true then siftDown ltInt hi first (selC d hi first (2 * root + 1)) (swp d (first + root) (first + selC d hi first (2 * root + 1))) else d := by
  by_cases hs : 2 * root + 1 + 1 < hi ∧ ltInt d[first + (2 * root + 1)]! d[first + (2 * root + 1 + 1)]! = true
  · have e : selC d hi first (2 * root + 1) = 2 * root + 2 := by unfold selC; rw [if_pos hs]
    have hs2 : ltInt d[first + (2 * root + 1)]! d[first + (2 * root + 1) + 1]! = true := hs.2
    rw [e, siftDown, dif_neg (by omega), if_pos (by rw [hs2]; simp [hs.1]), dif_pos hs.1]
    cases ltInt d[first + root]! d[first + (2 * root + 2)]! <;> rfl
  · have e : selC d hi first (2 * root + 1) = 2 * root + 1 := by unfold selC; rw [if_neg hs]
    rw [e, siftDown, dif_neg (by omega), if_neg (fun h => hs (by rw [Bool.and_eq_true, decide_eq_true_eq] at h; exact h))]
    cases ltInt d[first + root]! d[first + (2 * root + 1)]! <;> rfl
theorem selC_lt {d : Array Int} {hi first c : Nat} (h : c < hi) : selC d hi first c < hi ∧ c ≤ selC d hi first c := by
  unfold selC; split <;> omega
theorem sift_size (hi first : Nat) : ∀ (n root : Nat) (d : Array Int), hi - root ≤ n → (siftDown ltInt hi first root d).size = d.size := by
  intro n
  induction n with
  | zero => intro root d hn; rw [sift_done (by omega)]
  | succ n ih =>
    intro root d hn
    rcases Nat.lt_or_ge (2 * root + 1) hi with hr | hr
    · rw [sift_go hr]
      have hs := selC_lt (d := d) (first := first) hr
      split
      · rw [ih _ _ (by omega)]; simp [swp]
      · rfl
    · rw [sift_done hr]
set_option maxRecDepth 100000 in
theorem sift_c (l : List Int) (lo hi first : Nat) (v : Value) (h : Heap) (hlo : lo ≤ l.length) (hb : first + hi ≤ l.length) (hn : l.length ≤ 1000000000000) :
    ACalls Tryz.prog 155 [.val v, .val (.int .i64 (lo : Int)), .val (.int .i64 (hi : Int)), .val (.int .i64 (first : Int))] (.own v 1 (ints .i64 l) 3 :: h) (fun r h' => r = .tup [] ∧ ∃ l', h' = .own v 1 (ints .i64 l') 3 :: h ∧ l'.toArray = siftDown ltInt hi first lo l.toArray) := by
  refine ACalls.intro Tryz.func155 rfl Tryz.ntmps155 Tryz.results155 (Nat.le_of_ble_eq_true rfl) ?_
  (repeat' (first|refine svz ⟨fun b hq=>?_⟩|refine svW ⟨?_⟩|refine svu ⟨fun u=>?_⟩|(refine svG (fun hc=>?_) (fun hc=>?_)<;>try exact svx)|refine svh (fun hb=>?_) (fun hb=>?_)|refine svb (fun b=>?_)|fail))
  refine W.loop (J := fun (x : Nat × List Int) => ⟨76, [(8, .val (.int .i64 (x.1 : Int))), (3, .val (.int .i64 (first : Int))), (2, .val (.int .i64 (hi : Int))), (0, .val v)], .own v 1 (ints .i64 x.2) 3 :: h⟩)
    (Φ := fun x => x.1 ≤ l.length ∧ x.2.length = l.length ∧ siftDown ltInt hi first x.1 x.2.toArray = siftDown ltInt hi first lo l.toArray) (μ := fun x => l.length + 1 - x.1) (lo, l) lee ⟨hlo, rfl, rfl⟩ ?_
  rintro ⟨root, q⟩ ⟨h1, h2, h3⟩
  dsimp only at h1 h2 h3 ⊢
  rcases Nat.lt_or_ge (2 * root + 1) hi with hr | hr
  · obtain ⟨c, hc⟩ : ∃ c, c = 2 * root + 1 := ⟨_, rfl⟩
    have hgo := sift_go (d := q.toArray) (first := first) hr
    rw [h3, ← hc] at hgo
    have hs := selC_lt (d := q.toArray) (first := first) (show c < hi by omega)
    (repeat' (first | refine svz ⟨fun b hq=>?_⟩|refine sw1 ?_|refine svs ⟨?_⟩|refine sv2 ?_|refine svu ⟨fun u=>?_⟩|(refine svG (fun hc=>?_) (fun hc=>?_)<;>try exact svx)|refine svh (fun hb=>?_) (fun hb=>?_)|refine svb (fun b=>?_) | fail))
    refine W.seq ?_
    (repeat' (first | refine svz ⟨fun b hq=>?_⟩|refine sw1 ?_|refine svs ⟨?_⟩|refine sv2 ?_|refine svu ⟨fun u=>?_⟩|(refine svG (fun hc=>?_) (fun hc=>?_)<;>try exact svx)|refine svh (fun hb=>?_) (fun hb=>?_)|refine svb (fun b=>?_) | fail))
    rw [show (2 * (root : Int) + 1) = ((c : Nat) : Int) by omega]
    refine W.mid (J := fun x : Nat => ⟨76, [(9, .val (.int .i64 (x : Int))), (8, .val (.int .i64 (root : Int))), (3, .val (.int .i64 (first : Int))), (2, .val (.int .i64 (hi : Int))), (0, .val v)], .own v 1 (ints .i64 q) 3 :: h⟩)
      (Φ := fun x => x = selC q.toArray hi first c) ?_ ?_
    · refine W.mid (J := fun x : Bool => ⟨76, [(36, .val (.bool x)), (9, .val (.int .i64 (c : Int))), (8, .val (.int .i64 (root : Int))), (3, .val (.int .i64 (first : Int))), (2, .val (.int .i64 (hi : Int))), (0, .val v)], .own v 1 (ints .i64 q) 3 :: h⟩)
        (Φ := fun x => x = decide (c + 1 < hi ∧ ltInt (q.getD (first + c) 0) (q.getD (first + (c + 1)) 0) = true)) ?_ ?_
      · rcases Nat.lt_or_ge (c + 1) hi with hc1 | hc1
        · refine W.dend (.ro (.done _)) ?_
          have hq1 : first + c + 1 < q.length := by omega
          have : (ints .i64 q)[first + c + 1]? = some (.val (.int .i64 (q[first + c + 1]))) := at_intsN hq1
          refine D.T 0 ?_; refine D.T 1 ?_; refine D.T 2 ?_; refine D.T 3 ?_; refine D.T 4 ?_; refine D.T 5 ?_; refine D.T 6 ?_; refine D.T 7 ?_; refine D.T 8 ?_; refine D.T 9 ?_; refine D.T 10 ?_; refine D.T 11 ?_; refine D.T 12 ?_; refine D.T 13 ?_; refine D.T 14 ?_; refine D.T 15 ?_; refine D.T 16 ?_; refine D.T 17 ?_
          refine D.B1 18 ?_
          rw [getD_at (l := q), getD_at (l := q)]
          refine S.call ?_
          refine (less_c (q.getD (first + c) 0) (q.getD (first + c + 1) 0) _).mono ?_
          rintro r h' ⟨rfl, hh⟩
          subst hh
          refine D.V 19 ?_
          refine D.E ?_
          refine thn ?_
          exact ⟨ltInt (q.getD (first + c) 0) (q.getD (first + (c + 1)) 0), by simp [hc1], lee⟩
        · refine W.dend (.done _) ?_
          refine D.T 0 ?_; refine D.T 1 ?_; refine D.T 2 ?_; refine D.T 3 ?_; refine D.T 4 ?_; refine D.S 5 ?_; refine D.S 6 ?_; refine D.S 7 ?_; refine D.S 8 ?_; refine D.S 9 ?_; refine D.S 10 ?_; refine D.S 11 ?_; refine D.S 12 ?_; refine D.S 13 ?_; refine D.S 14 ?_; refine D.S 15 ?_; refine D.S 16 ?_; refine D.S 17 ?_; refine D.S 18 ?_; refine D.T 19 ?_
          refine D.E ?_
          refine thn ?_
          exact ⟨false, by rw [decide_eq_false (by omega)], lee⟩
      · rintro x rfl
        by_cases hsel : c + 1 < hi ∧ ltInt (q.getD (first + c) 0) (q.getD (first + (c + 1)) 0) = true
        · rw [decide_eq_true hsel]
          (repeat' (first|refine svz ⟨fun b hq=>?_⟩|refine svW ⟨?_⟩|refine svu ⟨fun u=>?_⟩|(refine svG (fun hc=>?_) (fun hc=>?_)<;>try exact svx)|refine svh (fun hb=>?_) (fun hb=>?_)|refine svb (fun b=>?_)|fail))
          exact ⟨c + 1, by unfold selC; rw [arr_get, arr_get, if_pos hsel], lee⟩
        · rw [decide_eq_false hsel]
          (repeat' (first|refine svz ⟨fun b hq=>?_⟩|refine svW ⟨?_⟩|refine svu ⟨fun u=>?_⟩|(refine svG (fun hc=>?_) (fun hc=>?_)<;>try exact svx)|refine svh (fun hb=>?_) (fun hb=>?_)|refine svb (fun b=>?_)|fail))
          exact ⟨c, by unfold selC; rw [arr_get, arr_get, if_neg hsel], lee⟩
    · intro c' hc'
      rw [← hc'] at hgo hs
      have hq0 : first + root < q.length := by omega
      have hq1 : first + c' < q.length := by omega
      (repeat' (first | refine svz ⟨fun b hq=>?_⟩|refine sw1 ?_|refine svs ⟨?_⟩|refine sv2 ?_|refine svu ⟨fun u=>?_⟩|(refine svG (fun hc=>?_) (fun hc=>?_)<;>try exact svx)|refine svh (fun hb=>?_) (fun hb=>?_)|refine svb (fun b=>?_) | fail))
      refine W.seq ?_
      refine W.mid (J := fun x : Bool => ⟨76, [(52, .val (.bool x)), (9, .val (.int .i64 (c' : Int))), (8, .val (.int .i64 (root : Int))), (3, .val (.int .i64 (first : Int))), (2, .val (.int .i64 (hi : Int))), (0, .val v)], .own v 1 (ints .i64 q) 3 :: h⟩)
        (Φ := fun x => x = !ltInt (q.getD (first + root) 0) (q.getD (first + c') 0)) ?_ ?_
      · refine W.dend (.ro (.done _)) ?_
        refine D.T 0 ?_; refine D.T 1 ?_; refine D.T 2 ?_; refine D.T 3 ?_; refine D.T 4 ?_; refine D.T 5 ?_; refine D.T 6 ?_; refine D.T 7 ?_; refine D.T 8 ?_; refine D.T 9 ?_; refine D.T 10 ?_; refine D.T 11 ?_
        refine D.B1 12 ?_
        rw [getD_at (l := q), getD_at (l := q)]
        refine S.call ?_
        refine (less_c (q.getD (first + root) 0) (q.getD (first + c') 0) _).mono ?_
        rintro r h' ⟨rfl, hh⟩
        subst hh
        refine D.V 13 ?_
        refine D.E ?_
        refine thn ?_
        exact ⟨decide (¬ q.getD (first + root) 0 < q.getD (first + c') 0), by unfold ltInt; rw [decide_not], lee⟩
      · rintro x rfl
        rw [arr_get, arr_get] at hgo
        cases hlt : ltInt (q.getD (first + root) 0) (q.getD (first + c') 0)
        · rw [if_neg (by rw [hlt]; simp)] at hgo
          (repeat' (first|refine svz ⟨fun b hq=>?_⟩|refine svW ⟨?_⟩|refine svu ⟨fun u=>?_⟩|(refine svG (fun hc=>?_) (fun hc=>?_)<;>try exact svx)|refine svh (fun hb=>?_) (fun hb=>?_)|refine svb (fun b=>?_)|fail))
          exact fin_r (h' := .own v 1 (ints .i64 q) 3 :: h) ⟨rfl, q, rfl, hgo.symm⟩
        · rw [if_pos hlt] at hgo
          have hix : Nat.succ 0 = 1 := rfl
          (repeat' (first|refine svz ⟨fun b hq=>?_⟩|refine svW ⟨?_⟩|refine svu ⟨fun u=>?_⟩|(refine svG (fun hc=>?_) (fun hc=>?_)<;>try exact svx)|refine svh (fun hb=>?_) (fun hb=>?_)|refine svb (fun b=>?_)|fail))
          refine W.midB (J := fun _ : Unit => ⟨76, [(9, .val (.int .i64 (c' : Int))), (8, .val (.int .i64 (root : Int))), (3, .val (.int .i64 (first : Int))), (2, .val (.int .i64 (hi : Int))), (0, .val v)], .own v 1 (ints .i64 (swpL q (first + root) (first + c'))) 3 :: h⟩) (Φ := fun _ => True) inT ?_ ?_
          · (refine W.dend (.done _) ?_; refine D.T 0 ?_; refine D.T 1 ?_; refine D.T 2 ?_; refine D.T 3 ?_; refine D.T 4 ?_; refine D.T 5 ?_; refine D.T 6 ?_; refine D.T 7 ?_; refine D.T 8 ?_; refine D.T 9 ?_; refine D.T 10 ?_; refine D.T 11 ?_; refine D.V 12 ?_; refine D.T 14 ?_; refine D.T 15 ?_; refine D.T 16 ?_; refine D.T 17 ?_; refine D.V 18 ?_; refine D.B2 13 19 ?_ ?_; (refine S.L ?_; refine D.BL 19 ?_; refine S.L ?_; refine D.V 20 ?_; refine D.BL 21 ?_; refine S.store_elem ?_; refine D.V 22 ?_; refine D.BL 23 ?_; refine S.store_elem ?_; refine D.E ?_; refine thn ?_; refine ⟨(), trivial, ?_⟩; simp only [ints_set, getD_at, hix]; exact lee); (refine S.L ?_; refine D.BL 13 ?_; refine S.L ?_; refine D.V 20 ?_; refine D.BL 21 ?_; refine S.store_elem ?_; refine D.V 22 ?_; refine D.BL 23 ?_; refine S.store_elem ?_; refine D.E ?_; refine thn ?_; refine ⟨(), trivial, ?_⟩; simp only [ints_set, getD_at, hix]; exact lee))
          · rintro _ _
            (repeat' (first|refine svz ⟨fun b hq=>?_⟩|refine svW ⟨?_⟩|refine svu ⟨fun u=>?_⟩|(refine svG (fun hc=>?_) (fun hc=>?_)<;>try exact svx)|refine svh (fun hb=>?_) (fun hb=>?_)|refine svb (fun b=>?_)|fail))
            exact ⟨(c', swpL q (first + root) (first + c')), ⟨by dsimp only; omega, by rw [swpL_length]; exact h2, by dsimp only; rw [swpL_arr]; exact hgo.symm⟩, lee, by dsimp only; omega⟩
  · (repeat' (first|refine svz ⟨fun b hq=>?_⟩|refine svW ⟨?_⟩|refine svu ⟨fun u=>?_⟩|(refine svG (fun hc=>?_) (fun hc=>?_)<;>try exact svx)|refine svh (fun hb=>?_) (fun hb=>?_)|refine svb (fun b=>?_)|fail))
    exact fin_n (h' := .own v 1 (ints .i64 q) 3 :: h) ⟨rfl, q, rfl, by rw [← h3, sift_done hr]⟩
set_option maxRecDepth 100000 in
theorem heap_c (l : List Int) (a b : Nat) (v : Value) (h : Heap) (hab : a < b) (hb : b ≤ l.length) (hn : l.length ≤ 1000000000000) :
    ACalls Tryz.prog 146 [.val v, .val (.int .i64 (a : Int)), .val (.int .i64 (b : Int))] (.own v 1 (ints .i64 l) 3 :: h) (fun r h' => r = .tup [] ∧ ∃ l', h' = .own v 1 (ints .i64 l') 3 :: h ∧ l'.toArray = heapSort ltInt l.toArray a b) := by
  refine ACalls.intro Tryz.func146 rfl Tryz.ntmps146 Tryz.results146 (Nat.le_of_ble_eq_true rfl) ?_
  (repeat' (first|refine svz ⟨fun b hq=>?_⟩|refine svW ⟨?_⟩|refine svu ⟨fun u=>?_⟩|(refine svG (fun hc=>?_) (fun hc=>?_)<;>try exact svx)|refine svh (fun hb=>?_) (fun hb=>?_)|refine svb (fun b=>?_)|fail))
  obtain ⟨n, hN⟩ : ∃ n, n = b - a := ⟨_, rfl⟩
  rw [show ((b : Int) - (a : Int)) = ((n : Nat) : Int) by omega]
  refine W.loop (J := fun (x : Nat × List Int) => ⟨56, [(9, .val (.int .i64 ((x.1 : Int) - 1))), (8, .val (.int .i64 (n : Int))), (7, .val (.int .i64 0)), (6, .val (.int .i64 (a : Int))), (0, .val v)], .own v 1 (ints .i64 x.2) 3 :: h⟩)
    (Φ := fun x => x.1 ≤ l.length ∧ x.2.length = l.length ∧ heapBuild ltInt n a x.1 x.2.toArray = heapBuild ltInt n a ((n - 1) / 2 + 1) l.toArray) (μ := fun x => x.1) ((n - 1) / 2 + 1, l) (by dsimp only; rw [show ((((n - 1) / 2 + 1 : Nat) : Int) - 1) = ((n : Int) - 1) / 2 by omega]; exact lee) ⟨by dsimp only; omega, rfl, rfl⟩ ?_
  rintro ⟨k, q⟩ ⟨h1, h2, h3⟩
  dsimp only at h1 h2 h3 ⊢
  cases k with
  | succ k =>
    (repeat' (first|refine svz ⟨fun b hq=>?_⟩|refine svW ⟨?_⟩|refine svu ⟨fun u=>?_⟩|(refine svG (fun hc=>?_) (fun hc=>?_)<;>try exact svx)|refine svh (fun hb=>?_) (fun hb=>?_)|refine svb (fun b=>?_)|fail))
    refine S.call ?_
    rw [show (((k + 1 : Nat) : Int) - 1) = (k : Int) by omega]
    refine (sift_c q k n a v h (by omega) (by omega) (by omega)).mono ?_
    rintro r h' ⟨rfl, q', rfl, hq'⟩
    have h2' : q'.length = l.length := by
      have := congrArg Array.size hq'
      rw [sift_size _ _ _ _ _ (Nat.le_refl _)] at this; simpa [h2] using this
    (repeat' (first|refine svz ⟨fun b hq=>?_⟩|refine svW ⟨?_⟩|refine svu ⟨fun u=>?_⟩|(refine svG (fun hc=>?_) (fun hc=>?_)<;>try exact svx)|refine svh (fun hb=>?_) (fun hb=>?_)|refine svb (fun b=>?_)|fail))
    exact ⟨(k, q'), ⟨by dsimp only; omega, h2', by dsimp only; rw [hq', ← h3]; rfl⟩, lee, by dsimp only; omega⟩
  | zero =>
    (repeat' (first|refine svz ⟨fun b hq=>?_⟩|refine svW ⟨?_⟩|refine svu ⟨fun u=>?_⟩|(refine svG (fun hc=>?_) (fun hc=>?_)<;>try exact svx)|refine svh (fun hb=>?_) (fun hb=>?_)|refine svb (fun b=>?_)|fail))
    rw [show (((n : Nat) : Int) - 1) = ((n : Nat) : Int) - 1 by rfl]
    refine W.loop (J := fun (x : Nat × List Int) => ⟨56, [(10, .val (.int .i64 ((x.1 : Int) - 1))), (7, .val (.int .i64 0)), (6, .val (.int .i64 (a : Int))), (0, .val v)], .own v 1 (ints .i64 x.2) 3 :: h⟩)
      (Φ := fun x => x.1 ≤ n ∧ x.2.length = l.length ∧ heapPop ltInt a x.1 x.2.toArray = heapSort ltInt l.toArray a b) (μ := fun x => x.1) (n, q) lee ⟨Nat.le_refl _, h2, by dsimp only; unfold heapSort; rw [← hN, ← h3]; rfl⟩ ?_
    rintro ⟨k, p⟩ ⟨g1, g2, g3⟩
    dsimp only at g1 g2 g3 ⊢
    cases k with
    | succ k =>
      have hq0 : a < p.length := by omega
      have hq1 : a + k < p.length := by omega
      have hix : ((k + 1 : Nat) : Int) - 1 = (k : Int) := by omega
      rw [hix]
      (repeat' (first|refine svz ⟨fun b hq=>?_⟩|refine svW ⟨?_⟩|refine svu ⟨fun u=>?_⟩|(refine svG (fun hc=>?_) (fun hc=>?_)<;>try exact svx)|refine svh (fun hb=>?_) (fun hb=>?_)|refine svb (fun b=>?_)|fail))
      refine W.midB (J := fun _ : Unit => ⟨56, [(10, .val (.int .i64 (k : Int))), (7, .val (.int .i64 0)), (6, .val (.int .i64 (a : Int))), (0, .val v)], .own v 1 (ints .i64 (swpL p a (a + k))) 3 :: h⟩) (Φ := fun _ => True) inT ?_ ?_
      · (refine W.dend (.done _) ?_; refine D.T 0 ?_; refine D.T 1 ?_; refine D.T 2 ?_; refine D.T 3 ?_; refine D.T 4 ?_; refine D.T 5 ?_; refine D.T 6 ?_; refine D.T 7 ?_; refine D.T 8 ?_; refine D.T 9 ?_; refine D.V 10 ?_; refine D.T 12 ?_; refine D.T 13 ?_; refine D.V 14 ?_; refine D.B2 11 15 ?_ ?_; (refine S.L ?_; refine D.BL 15 ?_; refine S.L ?_; refine D.V 16 ?_; refine D.BL 17 ?_; refine S.store_elem ?_; refine D.V 18 ?_; refine D.BL 19 ?_; refine S.store_elem ?_; refine D.E ?_; refine thn ?_; refine ⟨(), trivial, ?_⟩; simp only [ints_set, getD_at, hix]; exact lee); (refine S.L ?_; refine D.BL 11 ?_; refine S.L ?_; refine D.V 16 ?_; refine D.BL 17 ?_; refine S.store_elem ?_; refine D.V 18 ?_; refine D.BL 19 ?_; refine S.store_elem ?_; refine D.E ?_; refine thn ?_; refine ⟨(), trivial, ?_⟩; simp only [ints_set, getD_at, hix]; exact lee))
      · rintro _ _
        (repeat' (first|refine svz ⟨fun b hq=>?_⟩|refine svW ⟨?_⟩|refine svu ⟨fun u=>?_⟩|(refine svG (fun hc=>?_) (fun hc=>?_)<;>try exact svx)|refine svh (fun hb=>?_) (fun hb=>?_)|refine svb (fun b=>?_)|fail))
        refine S.call ?_
        refine (sift_c (swpL p a (a + k)) 0 k a v h (by omega) (by rw [swpL_length]; omega) (by rw [swpL_length]; omega)).mono ?_
        rintro r h' ⟨rfl, q', rfl, hq'⟩
        have h2' : q'.length = l.length := by
          have := congrArg Array.size hq'
          rw [sift_size _ _ _ _ _ (Nat.le_refl _)] at this; simpa [swpL_length, g2] using this
        (repeat' (first|refine svz ⟨fun b hq=>?_⟩|refine svW ⟨?_⟩|refine svu ⟨fun u=>?_⟩|(refine svG (fun hc=>?_) (fun hc=>?_)<;>try exact svx)|refine svh (fun hb=>?_) (fun hb=>?_)|refine svb (fun b=>?_)|fail))
        exact ⟨(k, q'), ⟨by dsimp only; omega, h2', by dsimp only; rw [hq', ← g3, swpL_arr]; rfl⟩, lee, by dsimp only; omega⟩
    | zero =>
      (repeat' (first|refine svz ⟨fun b hq=>?_⟩|refine svW ⟨?_⟩|refine svu ⟨fun u=>?_⟩|(refine svG (fun hc=>?_) (fun hc=>?_)<;>try exact svx)|refine svh (fun hb=>?_) (fun hb=>?_)|refine svb (fun b=>?_)|fail))
      exact fin_n (h' := .own v 1 (ints .i64 p) 3 :: h) ⟨rfl, p, rfl, g3⟩
end Go.Proofs.YtfbegifmhgkpjaaGreat
