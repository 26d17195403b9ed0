import Derived.Test.YtfbegifmhgkpjaaGreatS1
namespace Go.Proofs.YtfbegifmhgkpjaaGreat
open Go Go.VM Go.Sort
attribute [local irreducible] PurV Pur Step RL W D ACalls Then InBlock Fini
set_option linter.unusedVariables false
set_option linter.unusedSimpArgs false
set_option maxHeartbeats 20000000
set_option maxRecDepth 100000 in
theorem nan_c (a : Int) (h : Heap) : ACalls Tryz.prog 110 [.val (.int .i64 a)] h (fun r h' => r = .val (.bool false) ∧ h' = h) := by
  refine ACalls.intro Tryz.func110 rfl Tryz.ntmps110 Tryz.results110 (Nat.le_of_ble_eq_true rfl) ?_
  (repeat' (first|refine svz ⟨fun b hq=>?_⟩|refine svW ⟨?_⟩|refine svu ⟨fun u=>?_⟩|(refine svG (fun hc=>?_) (fun hc=>?_)<;>try exact svx)|refine svh (fun hb=>?_) (fun hb=>?_)|refine svb (fun b=>?_)|fail))
  refine fin_r (h' := h) ⟨?_, rfl⟩
  simp [tupA]
set_option maxRecDepth 100000 in
theorem less_c (a b : Int) (h : Heap) : ACalls Tryz.prog 151 [.val (.int .i64 a), .val (.int .i64 b)] h (fun r h' => r = .val (.bool (ltInt a b)) ∧ h' = h) := by
  refine ACalls.intro Tryz.func151 rfl Tryz.ntmps151 Tryz.results151 (Nat.le_of_ble_eq_true rfl) ?_
  (repeat' (first|refine svz ⟨fun b hq=>?_⟩|refine svW ⟨?_⟩|refine svu ⟨fun u=>?_⟩|(refine svG (fun hc=>?_) (fun hc=>?_)<;>try exact svx)|refine svh (fun hb=>?_) (fun hb=>?_)|refine svb (fun b=>?_)|fail))
  refine S.call ?_
  refine (nan_c a _).mono ?_
  rintro r h' ⟨rfl, rfl⟩
  (repeat' (first|refine svz ⟨fun b hq=>?_⟩|refine svW ⟨?_⟩|refine svu ⟨fun u=>?_⟩|(refine svG (fun hc=>?_) (fun hc=>?_)<;>try exact svx)|refine svh (fun hb=>?_) (fun hb=>?_)|refine svb (fun b=>?_)|fail))
  exact fin_r (h' := h') ⟨rfl, rfl⟩
set_option maxRecDepth 100000 in
theorem ord_c (l : List Int) (a b b3 : Nat) (s : Int) (v : Value) (h : Heap) (ha : a < l.length) (hb : b < l.length) (hs : 0 ≤ s ∧ s ≤ 1000) :
    ACalls Tryz.prog 158 [.val v, .val (.int .i64 (a : Int)), .val (.int .i64 (b : Int)), .val (.pointer (some ⟨b3, 0, none⟩))] (.own v 1 (ints .i64 l) 3 :: .box b3 [.val (.int .i64 s)] 3 :: h)
      (fun r h' => ∃ (x y : Nat) (s' : Int), r = .tup [.val (.int .i64 (x : Int)), .val (.int .i64 (y : Int))] ∧ ((x = a ∧ y = b) ∨ (x = b ∧ y = a)) ∧ 0 ≤ s' ∧ s' ≤ s + 1 ∧ h' = .own v 1 (ints .i64 l) 3 :: .box b3 [.val (.int .i64 s')] 3 :: h) := by
  refine ACalls.intro Tryz.func158 rfl Tryz.ntmps158 Tryz.results158 (Nat.le_of_ble_eq_true rfl) ?_
  (repeat' (first|refine svz ⟨fun b hq=>?_⟩|refine svW ⟨?_⟩|refine svu ⟨fun u=>?_⟩|(refine svG (fun hc=>?_) (fun hc=>?_)<;>try exact svx)|refine svh (fun hb=>?_) (fun hb=>?_)|refine svb (fun b=>?_)|fail))
  refine W.dend (.ro (.done _)) ?_
  refine D.T 0 ?_; refine D.T 1 ?_; refine D.T 2 ?_; refine D.T 3 ?_; refine D.T 4 ?_; refine D.T 5 ?_; refine D.T 6 ?_; refine D.T 7 ?_
  refine D.B1 8 ?_
  --}
  refine S.call ?_
  refine (less_c l[b] l[a] _).mono ?_
  rintro r h' ⟨rfl, hh⟩
  subst hh
  cases hlt : ltInt l[b] l[a]
  · (repeat' (first|refine svz ⟨fun b hq=>?_⟩|refine svW ⟨?_⟩|refine svu ⟨fun u=>?_⟩|(refine svG (fun hc=>?_) (fun hc=>?_)<;>try exact svx)|refine svh (fun hb=>?_) (fun hb=>?_)|refine svb (fun b=>?_)|fail))
    refine D.E ?_
    (repeat' (first|refine svz ⟨fun b hq=>?_⟩|refine svW ⟨?_⟩|refine svu ⟨fun u=>?_⟩|(refine svG (fun hc=>?_) (fun hc=>?_)<;>try exact svx)|refine svh (fun hb=>?_) (fun hb=>?_)|refine svb (fun b=>?_)|fail))
    exact fin_r (h' := .own v 1 (ints .i64 l) 3 :: .box b3 [.val (.int .i64 s)] 3 :: h) ⟨a, b, s, rfl, .inl ⟨rfl, rfl⟩, by omega, by omega, rfl⟩
  · (repeat' (first|refine svz ⟨fun b hq=>?_⟩|refine svW ⟨?_⟩|refine svu ⟨fun u=>?_⟩|(refine svG (fun hc=>?_) (fun hc=>?_)<;>try exact svx)|refine svh (fun hb=>?_) (fun hb=>?_)|refine svb (fun b=>?_)|fail))
    refine D.E ?_
    (repeat' (first|refine svz ⟨fun b hq=>?_⟩|refine svW ⟨?_⟩|refine svu ⟨fun u=>?_⟩|(refine svG (fun hc=>?_) (fun hc=>?_)<;>try exact svx)|refine svh (fun hb=>?_) (fun hb=>?_)|refine svb (fun b=>?_)|fail))
    exact fin_r (h' := .own v 1 (ints .i64 l) 3 :: .box b3 [.val (.int .i64 (s + 1))] 3 :: h) ⟨b, a, s + 1, rfl, .inr ⟨rfl, rfl⟩, by omega, by omega, rfl⟩
set_option maxRecDepth 100000 in
theorem med_c (l : List Int) (a b c b3 : Nat) (s : Int) (v : Value) (h : Heap) (ha : a < l.length) (hb : b < l.length) (hc : c < l.length) (hs : 0 ≤ s ∧ s ≤ 900) :
    ACalls Tryz.prog 157 [.val v, .val (.int .i64 (a : Int)), .val (.int .i64 (b : Int)), .val (.int .i64 (c : Int)), .val (.pointer (some ⟨b3, 0, none⟩))] (.own v 1 (ints .i64 l) 3 :: .box b3 [.val (.int .i64 s)] 3 :: h)
      (fun r h' => ∃ (x : Nat) (s' : Int), r = .val (.int .i64 (x : Int)) ∧ (x = a ∨ x = b ∨ x = c) ∧ 0 ≤ s' ∧ s' ≤ s + 3 ∧ h' = .own v 1 (ints .i64 l) 3 :: .box b3 [.val (.int .i64 s')] 3 :: h) := by
  refine ACalls.intro Tryz.func157 rfl Tryz.ntmps157 Tryz.results157 (Nat.le_of_ble_eq_true rfl) ?_
  (repeat' (first|refine svz ⟨fun b hq=>?_⟩|refine svW ⟨?_⟩|refine svu ⟨fun u=>?_⟩|(refine svG (fun hc=>?_) (fun hc=>?_)<;>try exact svx)|refine svh (fun hb=>?_) (fun hb=>?_)|refine svb (fun b=>?_)|fail))
  refine S.call ?_
  refine (ord_c l a b b3 s v h ha hb (by omega)).mono ?_
  rintro r h' ⟨x1, y1, s1, rfl, h1, h11, h12, hh⟩
  subst hh
  (repeat' (first|refine svz ⟨fun b hq=>?_⟩|refine svW ⟨?_⟩|refine svu ⟨fun u=>?_⟩|(refine svG (fun hc=>?_) (fun hc=>?_)<;>try exact svx)|refine svh (fun hb=>?_) (fun hb=>?_)|refine svb (fun b=>?_)|fail))
  refine S.call ?_
  refine (ord_c l y1 c b3 s1 v h (by omega) hc (by omega)).mono ?_
  rintro r h' ⟨x2, y2, s2, rfl, h2, h21, h22, hh⟩
  subst hh
  (repeat' (first|refine svz ⟨fun b hq=>?_⟩|refine svW ⟨?_⟩|refine svu ⟨fun u=>?_⟩|(refine svG (fun hc=>?_) (fun hc=>?_)<;>try exact svx)|refine svh (fun hb=>?_) (fun hb=>?_)|refine svb (fun b=>?_)|fail))
  refine S.call ?_
  refine (ord_c l x1 x2 b3 s2 v h (by omega) (by omega) (by omega)).mono ?_
  rintro r h' ⟨x3, y3, s3, rfl, h3, h31, h32, hh⟩
  subst hh
  (repeat' (first|refine svz ⟨fun b hq=>?_⟩|refine svW ⟨?_⟩|refine svu ⟨fun u=>?_⟩|(refine svG (fun hc=>?_) (fun hc=>?_)<;>try exact svx)|refine svh (fun hb=>?_) (fun hb=>?_)|refine svb (fun b=>?_)|fail))
  exact fin_r (h' := .own v 1 (ints .i64 l) 3 :: .box b3 [.val (.int .i64 s3)] 3 :: h) ⟨y3, s3, rfl, by omega, by omega, by omega, rfl⟩
set_option maxRecDepth 100000 in
theorem madj_c (l : List Int) (a b3 : Nat) (s : Int) (v : Value) (h : Heap) (ha1 : 1 ≤ a) (ha : a + 1 < l.length) (hs : 0 ≤ s ∧ s ≤ 900) (hn : l.length ≤ 1000000000000) :
    ACalls Tryz.prog 156 [.val v, .val (.int .i64 (a : Int)), .val (.pointer (some ⟨b3, 0, none⟩))] (.own v 1 (ints .i64 l) 3 :: .box b3 [.val (.int .i64 s)] 3 :: h)
      (fun r h' => ∃ (x : Nat) (s' : Int), r = .val (.int .i64 (x : Int)) ∧ (x = a - 1 ∨ x = a ∨ x = a + 1) ∧ 0 ≤ s' ∧ s' ≤ s + 3 ∧ h' = .own v 1 (ints .i64 l) 3 :: .box b3 [.val (.int .i64 s')] 3 :: h) := by
  refine ACalls.intro Tryz.func156 rfl Tryz.ntmps156 Tryz.results156 (Nat.le_of_ble_eq_true rfl) ?_
  (repeat' (first|refine svz ⟨fun b hq=>?_⟩|refine svW ⟨?_⟩|refine svu ⟨fun u=>?_⟩|(refine svG (fun hc=>?_) (fun hc=>?_)<;>try exact svx)|refine svh (fun hb=>?_) (fun hb=>?_)|refine svb (fun b=>?_)|fail))
  refine S.call ?_
  rw [show ((a : Int) - 1) = ((a - 1 : Nat) : Int) by omega, show ((a : Int) + 1) = ((a + 1 : Nat) : Int) by omega]
  refine (med_c l (a - 1) a (a + 1) b3 s v h (by omega) (by omega) ha (by omega)).mono ?_
  rintro r h' ⟨x, s', rfl, h1, h11, h12, hh⟩
  subst hh
  (repeat' (first|refine svz ⟨fun b hq=>?_⟩|refine svW ⟨?_⟩|refine svu ⟨fun u=>?_⟩|(refine svG (fun hc=>?_) (fun hc=>?_)<;>try exact svx)|refine svh (fun hb=>?_) (fun hb=>?_)|refine svb (fun b=>?_)|fail))
  exact fin_r (h' := .own v 1 (ints .i64 l) 3 :: .box b3 [.val (.int .i64 s')] 3 :: h) ⟨x, s', rfl, h1, h11, h12, rfl⟩
set_option maxRecDepth 100000 in
theorem piv_c (l : List Int) (a bb : Nat) (v : Value) (h : Heap) (hab : a + 12 < bb) (hb : bb ≤ l.length) (hn : l.length ≤ 1000000000000) :
    ACalls Tryz.prog 148 [.val v, .val (.int .i64 (a : Int)), .val (.int .i64 (bb : Int))] (.own v 1 (ints .i64 l) 3 :: h)
      (fun r h' => ∃ (p : Nat) (t : Int), r = .tup [.val (.int .i64 (p : Int)), .val (.int .i64 t)] ∧ a ≤ p ∧ p < bb ∧ h' = .own v 1 (ints .i64 l) 3 :: h) := by
  refine ACalls.intro Tryz.func148 rfl Tryz.ntmps148 Tryz.results148 (Nat.le_of_ble_eq_true rfl) ?_
  (repeat' (first | refine svz ⟨fun b hq=>?_⟩|refine sw1 ?_|refine svs ⟨?_⟩|refine sv2 ?_|refine svu ⟨fun u=>?_⟩|(refine svG (fun hc=>?_) (fun hc=>?_)<;>try exact svx)|refine svh (fun hb=>?_) (fun hb=>?_)|refine svb (fun b=>?_) | fail))
  revert b; intro b9
  obtain ⟨q, hq⟩ : ∃ q : Nat, (q : Int) = ((bb : Int) - (a : Int)) / 4 := ⟨(bb - a) / 4, by omega⟩
  rw [← hq]
  rw [show ((a : Int) + (q : Int) * 1) = ((a + q : Nat) : Int) by omega, show ((a : Int) + (q : Int) * 2) = ((a + q * 2 : Nat) : Int) by omega, show ((a : Int) + (q : Int) * 3) = ((a + q * 3 : Nat) : Int) by omega]
  refine W.le (s' := ⟨57, [(12, .val (.int .i64 ((a + q * 3 : Nat) : Int))), (11, .val (.int .i64 ((a + q * 2 : Nat) : Int))), (10, .val (.int .i64 ((a + q : Nat) : Int))), (9, .val (.pointer (some ⟨b9, 0, none⟩))), (8, .val (.int .i64 ((bb : Int) - (a : Int)))), (7, .val (.int .i64 0)), (6, .val (.int .i64 0)), (0, .val v)], .own v 1 (ints .i64 l) 3 :: .box b9 [.val (.int .i64 0)] 3 :: h⟩) lee ?_
  refine W.mid (J := fun x : Nat × Int => ⟨57, [(11, .val (.int .i64 (x.1 : Int))), (9, .val (.pointer (some ⟨b9, 0, none⟩))), (7, .val (.int .i64 0)), (6, .val (.int .i64 0))], .own v 1 (ints .i64 l) 3 :: .box b9 [.val (.int .i64 x.2)] 3 :: h⟩)
    (Φ := fun x => a ≤ x.1 ∧ x.1 < bb ∧ 0 ≤ x.2) ?_ ?_
  · (repeat' (first|refine svz ⟨fun b hq=>?_⟩|refine svW ⟨?_⟩|refine svu ⟨fun u=>?_⟩|(refine svG (fun hc=>?_) (fun hc=>?_)<;>try exact svx)|refine svh (fun hb=>?_) (fun hb=>?_)|refine svb (fun b=>?_)|fail))
    · refine S.call ?_
      refine (madj_c l (a + q) b9 0 v h (by omega) (by omega) (by omega) hn).mono ?_
      rintro r h' ⟨x1, s1, rfl, h1, h11, h12, hh⟩
      subst hh
      (repeat' (first|refine svz ⟨fun b hq=>?_⟩|refine svW ⟨?_⟩|refine svu ⟨fun u=>?_⟩|(refine svG (fun hc=>?_) (fun hc=>?_)<;>try exact svx)|refine svh (fun hb=>?_) (fun hb=>?_)|refine svb (fun b=>?_)|fail))
      refine S.call ?_
      refine (madj_c l (a + q * 2) b9 s1 v h (by omega) (by omega) (by omega) hn).mono ?_
      rintro r h' ⟨x2, s2, rfl, h2, h21, h22, hh⟩
      subst hh
      (repeat' (first|refine svz ⟨fun b hq=>?_⟩|refine svW ⟨?_⟩|refine svu ⟨fun u=>?_⟩|(refine svG (fun hc=>?_) (fun hc=>?_)<;>try exact svx)|refine svh (fun hb=>?_) (fun hb=>?_)|refine svb (fun b=>?_)|fail))
      refine S.call ?_
      refine (madj_c l (a + q * 3) b9 s2 v h (by omega) (by omega) (by omega) hn).mono ?_
      rintro r h' ⟨x3, s3, rfl, h3, h31, h32, hh⟩
      subst hh
      (repeat' (first|refine svz ⟨fun b hq=>?_⟩|refine svW ⟨?_⟩|refine svu ⟨fun u=>?_⟩|(refine svG (fun hc=>?_) (fun hc=>?_)<;>try exact svx)|refine svh (fun hb=>?_) (fun hb=>?_)|refine svb (fun b=>?_)|fail))
      refine S.call ?_
      refine (med_c l x1 x2 x3 b9 s3 v h (by omega) (by omega) (by omega) (by omega)).mono ?_
      rintro r h' ⟨x4, s4, rfl, h4, h41, h42, hh⟩
      subst hh
      (repeat' (first|refine svz ⟨fun b hq=>?_⟩|refine svW ⟨?_⟩|refine svu ⟨fun u=>?_⟩|(refine svG (fun hc=>?_) (fun hc=>?_)<;>try exact svx)|refine svh (fun hb=>?_) (fun hb=>?_)|refine svb (fun b=>?_)|fail))
      exact ⟨(x4, s4), ⟨by dsimp only; omega, by dsimp only; omega, by dsimp only; omega⟩, lee⟩
    · refine S.call ?_
      refine (med_c l (a + q) (a + q * 2) (a + q * 3) b9 0 v h (by omega) (by omega) (by omega) (by omega)).mono ?_
      rintro r h' ⟨x4, s4, rfl, h4, h41, h42, hh⟩
      subst hh
      (repeat' (first|refine svz ⟨fun b hq=>?_⟩|refine svW ⟨?_⟩|refine svu ⟨fun u=>?_⟩|(refine svG (fun hc=>?_) (fun hc=>?_)<;>try exact svx)|refine svh (fun hb=>?_) (fun hb=>?_)|refine svb (fun b=>?_)|fail))
      exact ⟨(x4, s4), ⟨by dsimp only; omega, by dsimp only; omega, by dsimp only; omega⟩, lee⟩
  · rintro ⟨x, s⟩ ⟨h1, h2, h3⟩
    dsimp only at h1 h2 h3 ⊢
    (repeat' (first|refine svz ⟨fun b hq=>?_⟩|refine svW ⟨?_⟩|refine svu ⟨fun u=>?_⟩|(refine svG (fun hc=>?_) (fun hc=>?_)<;>try exact svx)|refine svh (fun hb=>?_) (fun hb=>?_)|refine svb (fun b=>?_)|fail))
    all_goals exact fin_r (h' := .own v 1 (ints .i64 l) 3 :: h) ⟨x, _, rfl, h1, h2, rfl⟩
end Go.Proofs.YtfbegifmhgkpjaaGreat
