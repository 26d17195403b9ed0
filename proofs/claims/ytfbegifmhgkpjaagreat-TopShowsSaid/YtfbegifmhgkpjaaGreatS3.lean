import Derived.Test.YtfbegifmhgkpjaaGreatS2
import Derived.Test.YtfbegifmhgkpjaaGreatU3
namespace Go.Proofs.YtfbegifmhgkpjaaGreat
open Go Go.VM Go.Sort
attribute [local irreducible] PurV Pur Step RL W D ACalls Then InBlock Fini
set_option linter.unusedVariables false
set_option linter.unusedSimpArgs false
set_option maxHeartbeats 20000000
theorem insInner_stop {d : Array Int} {a j : Nat} (h : ¬ a < j ∨ ltInt d[j]! d[j - 1]! = false) : insInner ltInt a j d = d := by
  cases j with
  | zero => rfl
  | succ j =>
    rw [insInner, if_neg]
    simp only [Nat.add_sub_cancel] at h
    rcases h with h | h
    · simp; omega
    · simp [h]
theorem insInner_go {d : Array Int} {a j : Nat} (h : a < j) (h2 : ltInt d[j]! d[j - 1]! = true) : insInner ltInt a j d = insInner ltInt a (j - 1) (swp d j (j - 1)) := by
  cases j with
  | zero => omega
  | succ j =>
    simp only [Nat.add_sub_cancel] at h2 ⊢
    rw [insInner, if_pos (by simp [h2]; omega)]
set_option maxRecDepth 100000 in
theorem ins_c (l : List Int) (a b : Nat) (v : Value) (h : Heap) (hab : a ≤ b) (hb : b ≤ l.length) (hn : l.length ≤ 1000000000000) :
    ACalls Tryz.prog 145 [.val v, .val (.int .i64 (a : Int)), .val (.int .i64 (b : Int))] (.own v 1 (ints .i64 l) 3 :: h) (fun r h' => r = .tup [] ∧ ∃ l', h' = .own v 1 (ints .i64 l') 3 :: h ∧ l'.toArray = insertionSort ltInt l.toArray a b) := by
  refine ACalls.intro Tryz.func145 rfl Tryz.ntmps145 Tryz.results145 (Nat.le_of_ble_eq_true rfl) ?_
  (repeat' (first|refine svz ⟨fun b hq=>?_⟩|refine svW ⟨?_⟩|refine svu ⟨fun u=>?_⟩|(refine svG (fun hc=>?_) (fun hc=>?_)<;>try exact svx)|refine svh (fun hb=>?_) (fun hb=>?_)|refine svb (fun b=>?_)|fail))
  refine W.loop (J := fun (x : Nat × List Int) => ⟨49, [(6, .val (.int .i64 (x.1 : Int))), (2, .val (.int .i64 (b : Int))), (1, .val (.int .i64 (a : Int))), (0, .val v)], .own v 1 (ints .i64 x.2) 3 :: h⟩)
    (Φ := fun x => a < x.1 ∧ x.1 ≤ l.length + 1 ∧ x.2.length = l.length ∧ insOuter ltInt a b x.1 x.2.toArray = insertionSort ltInt l.toArray a b) (μ := fun x => b - x.1) (a + 1, l) lee ⟨by dsimp only; omega, by dsimp only; omega, rfl, rfl⟩ ?_
  rintro ⟨i, m⟩ ⟨h1, h2, h3, h4⟩
  dsimp only at h1 h2 h3 h4 ⊢
  rcases Nat.lt_or_ge i b with hib | hib
  · (repeat' (first|refine svz ⟨fun b hq=>?_⟩|refine svW ⟨?_⟩|refine svu ⟨fun u=>?_⟩|(refine svG (fun hc=>?_) (fun hc=>?_)<;>try exact svx)|refine svh (fun hb=>?_) (fun hb=>?_)|refine svb (fun b=>?_)|fail))
    refine W.loop (J := fun (x : Nat × List Int) => ⟨49, [(7, .val (.int .i64 (x.1 : Int))), (6, .val (.int .i64 (i : Int))), (2, .val (.int .i64 (b : Int))), (1, .val (.int .i64 (a : Int))), (0, .val v)], .own v 1 (ints .i64 x.2) 3 :: h⟩)
      (Φ := fun x => x.1 ≤ i ∧ x.2.length = l.length ∧ insInner ltInt a x.1 x.2.toArray = insInner ltInt a i m.toArray) (μ := fun x => x.1) (i, m) lee ⟨Nat.le_refl _, h3, rfl⟩ ?_
    rintro ⟨j, q⟩ ⟨g1, g2, g3⟩
    dsimp only at g1 g2 g3 ⊢
    have hex : insInner ltInt a j q.toArray = q.toArray → insOuter ltInt a b (i + 1) q.toArray = insertionSort ltInt l.toArray a b := fun e => by
      rw [← h4]; conv => rhs; rw [insOuter, if_pos hib]
      rw [← g3, e]
    rcases Nat.lt_or_ge a j with haj | haj
    · obtain ⟨j, rfl⟩ : ∃ j', j = j' + 1 := ⟨j - 1, by omega⟩
      (repeat' (first | refine svz ⟨fun b hq=>?_⟩|refine sw1 ?_|refine svs ⟨?_⟩|refine sv2 ?_|refine svu ⟨fun u=>?_⟩|(refine svG (fun hc=>?_) (fun hc=>?_)<;>try exact svx)|refine svh (fun hb=>?_) (fun hb=>?_)|refine svb (fun b=>?_) | fail))
      refine W.seq ?_
      refine W.mid (J := fun x : Bool => ⟨49, [(30, .val (.bool x)), (7, .val (.int .i64 ((j + 1 : Nat) : Int))), (6, .val (.int .i64 (i : Int))), (2, .val (.int .i64 (b : Int))), (1, .val (.int .i64 (a : Int))), (0, .val v)], .own v 1 (ints .i64 q) 3 :: h⟩) (Φ := fun x => x = ltInt (q.getD (j + 1) 0) (q.getD j 0)) ?_ ?_
      · refine W.dend (.ro (.done _)) ?_
        refine D.T 0 ?_; refine D.T 1 ?_; refine D.T 2 ?_; refine D.T 3 ?_; refine D.T 4 ?_; refine D.T 5 ?_; refine D.T 6 ?_; refine D.T 7 ?_; refine D.T 8 ?_; refine D.T 9 ?_; refine D.T 10 ?_; refine D.T 11 ?_; refine D.T 12 ?_
        refine D.B1 13 ?_
        rw [getD_at (l := q), getD_at (l := q), show (((j + 1 : Nat) : Int) - 1).toNat = j by omega]
        refine S.call ?_
        refine (less_c (q.getD (j + 1) 0) (q.getD j 0) _).mono ?_
        rintro r h' ⟨rfl, hh⟩
        subst hh
        refine D.V 14 ?_
        refine D.E ?_
        refine thn ?_
        exact ⟨_, rfl, lee⟩
      · rintro x rfl
        cases hlt : ltInt (q.getD (j + 1) 0) (q.getD j 0)
        · (repeat' (first|refine svz ⟨fun b hq=>?_⟩|refine svW ⟨?_⟩|refine svu ⟨fun u=>?_⟩|(refine svG (fun hc=>?_) (fun hc=>?_)<;>try exact svx)|refine svh (fun hb=>?_) (fun hb=>?_)|refine svb (fun b=>?_)|fail))
          exact ⟨(i + 1, q), ⟨by dsimp only; omega, by dsimp only; omega, g2, hex (insInner_stop (.inr (by rw [arr_get, arr_get]; exact hlt)))⟩, lee, by dsimp only; omega⟩
        · have g4 : insInner ltInt a j (swpL q (j + 1) j).toArray = insInner ltInt a i m.toArray := by
            rw [← g3, swpL_arr, insInner_go haj (by rw [arr_get, arr_get]; exact hlt)]; rfl
          have hix : (((j + 1 : Nat) : Int) - 1).toNat = j := by omega
          (repeat' (first|refine svz ⟨fun b hq=>?_⟩|refine svW ⟨?_⟩|refine svu ⟨fun u=>?_⟩|(refine svG (fun hc=>?_) (fun hc=>?_)<;>try exact svx)|refine svh (fun hb=>?_) (fun hb=>?_)|refine svb (fun b=>?_)|fail))
          refine W.midB (J := fun _ : Unit => ⟨49, [(7, .val (.int .i64 ((j + 1 : Nat) : Int))), (6, .val (.int .i64 (i : Int))), (2, .val (.int .i64 (b : Int))), (1, .val (.int .i64 (a : Int))), (0, .val v)], .own v 1 (ints .i64 (swpL q (j + 1) j)) 3 :: h⟩) (Φ := fun _ => True) inBT ?_ ?_
          · (refine W.dend (.done _) ?_; refine D.T 0 ?_; refine D.T 1 ?_; refine D.T 2 ?_; refine D.T 3 ?_; refine D.T 4 ?_; refine D.T 5 ?_; refine D.T 6 ?_; refine D.T 7 ?_; refine D.V 8 ?_; refine D.T 10 ?_; refine D.T 11 ?_; refine D.V 12 ?_; refine D.B2 9 13 ?_ ?_; (refine S.L ?_; refine D.BL 13 ?_; refine S.L ?_; refine D.V 14 ?_; refine D.BL 15 ?_; refine S.store_elem ?_; refine D.V 16 ?_; refine D.BL 17 ?_; refine S.store_elem ?_; refine D.E ?_; refine thn ?_; refine ⟨(), trivial, ?_⟩; simp only [ints_set, getD_at, hix]; exact lee); (refine S.L ?_; refine D.BL 9 ?_; refine S.L ?_; refine D.V 14 ?_; refine D.BL 15 ?_; refine S.store_elem ?_; refine D.V 16 ?_; refine D.BL 17 ?_; refine S.store_elem ?_; refine D.E ?_; refine thn ?_; refine ⟨(), trivial, ?_⟩; simp only [ints_set, getD_at, hix]; exact lee))
          · rintro _ _
            (repeat' (first|refine svz ⟨fun b hq=>?_⟩|refine svW ⟨?_⟩|refine svu ⟨fun u=>?_⟩|(refine svG (fun hc=>?_) (fun hc=>?_)<;>try exact svx)|refine svh (fun hb=>?_) (fun hb=>?_)|refine svb (fun b=>?_)|fail))
            exact ⟨(j, swpL q (j + 1) j), ⟨by dsimp only; omega, by rw [swpL_length]; exact g2, g4⟩, by dsimp only; rw [show ((j : Nat) : Int) = ((j + 1 : Nat) : Int) - 1 by omega]; exact lee, by dsimp only; omega⟩
    · (repeat' (first|refine svz ⟨fun b hq=>?_⟩|refine svW ⟨?_⟩|refine svu ⟨fun u=>?_⟩|(refine svG (fun hc=>?_) (fun hc=>?_)<;>try exact svx)|refine svh (fun hb=>?_) (fun hb=>?_)|refine svb (fun b=>?_)|fail))
      refine W.dend (.done _) ?_
      refine D.T 0 ?_; refine D.T 1 ?_; refine D.T 2 ?_; refine D.T 3 ?_; refine D.S 4 ?_; refine D.S 5 ?_; refine D.S 6 ?_; refine D.S 7 ?_; refine D.S 8 ?_; refine D.S 9 ?_; refine D.S 10 ?_; refine D.S 11 ?_; refine D.S 12 ?_; refine D.S 13 ?_; refine D.T 14 ?_
      refine D.E ?_
      (repeat' (first|refine svz ⟨fun b hq=>?_⟩|refine svW ⟨?_⟩|refine svu ⟨fun u=>?_⟩|(refine svG (fun hc=>?_) (fun hc=>?_)<;>try exact svx)|refine svh (fun hb=>?_) (fun hb=>?_)|refine svb (fun b=>?_)|fail))
      exact ⟨(i + 1, q), ⟨by dsimp only; omega, by dsimp only; omega, g2, hex (insInner_stop (.inl (by omega)))⟩, lee, by dsimp only; omega⟩
  · (repeat' (first|refine svz ⟨fun b hq=>?_⟩|refine svW ⟨?_⟩|refine svu ⟨fun u=>?_⟩|(refine svG (fun hc=>?_) (fun hc=>?_)<;>try exact svx)|refine svh (fun hb=>?_) (fun hb=>?_)|refine svb (fun b=>?_)|fail))
    exact fin_n (h' := .own v 1 (ints .i64 m) 3 :: h) ⟨rfl, m, rfl, by rw [← h4, insOuter, if_neg (by omega)]⟩
end Go.Proofs.YtfbegifmhgkpjaaGreat
