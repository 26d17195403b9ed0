import Derived.Test.YtfbegifmhgkpjaaGreatTy
import Derived.Test.YtfbegifmhgkpjaaGreatU3
import Derived.Test.YtfbegifmhgkpjaaGreatU4
import Derived.Sort.AssemblyPlain
namespace Go.Proofs
open Go Go.VM
set_option maxRecDepth 100000
end Go.Proofs

/- Rectangles: which count, and what they have: band's and the reference's. No condition. -/
namespace Go.Proofs.YtfbegifmhgkpjaaGreat
open Go Go.VM
attribute [local irreducible] PurV Pur Step RL W D ACalls Then InBlock Fini
set_option linter.unusedVariables false
set_option linter.unusedSimpArgs false
set_option maxHeartbeats 20000000
structure RC where
  x : Int
  y : Int
  w : Int
  h : Int
  deriving DecidableEq
def RC.enc (r : RC) : AV := .agg [.val (.int .i64 r.x), .val (.int .i64 r.y), .val (.int .i64 r.w), .val (.int .i64 r.h)]
def I64 (n : Int) : Prop := -9223372036854775808 ≤ n ∧ n ≤ 9223372036854775807
structure RC.ok (r : RC) : Prop where
  x : I64 r.x
  y : I64 r.y
  w : I64 r.w
  h : I64 r.h
def fitP (a n : Int) : Prop := -1048576 ≤ a ∧ 0 < n ∧ a + n ≤ 1048576
instance (a n : Int) : Decidable (fitP a n) := inferInstanceAs (Decidable (_ ∧ _ ∧ _))
def RC.cnt (r : RC) : Prop := fitP r.x r.w ∧ fitP r.y r.h
instance (r : RC) : Decidable r.cnt := inferInstanceAs (Decidable (_ ∧ _))
def RC.has (r : RC) (x y : Int) : Prop := r.x ≤ x ∧ x < r.x + r.w ∧ r.y ≤ y ∧ y < r.y + r.h
instance (r : RC) (x y : Int) : Decidable (r.has x y) := inferInstanceAs (Decidable (_ ∧ _ ∧ _ ∧ _))
set_option maxRecDepth 100000 in
theorem fits_c (a n : Int) (h : Heap) (ha : I64 a) (hn : I64 n) : ACalls Tryz.prog 107 [.val (.int .i64 a), .val (.int .i64 n)] h (fun r h' => r = .val (.bool (decide (fitP a n))) ∧ h' = h) := by
  refine ACalls.intro Tryz.func107 rfl Tryz.ntmps107 Tryz.results107 (Nat.le_of_ble_eq_true rfl) ?_
  obtain ⟨a1, a2⟩ := ha
  obtain ⟨n1, n2⟩ := hn
  by_cases h1 : -1048576 ≤ a
  · by_cases h2 : 0 < n
    · (repeat' (first|refine svz ⟨fun b hq=>?_⟩|refine svA ⟨?_⟩|refine svu ⟨fun u=>?_⟩|(refine svG (fun hc=>?_) (fun hc=>?_)<;>try exact svx)|refine svh (fun hb=>?_) (fun hb=>?_)|refine svb (fun b=>?_)|fail))
      refine fin_r (h' := h) ⟨?_, rfl⟩
      refine congrArg (fun b => AV.val (.bool b)) (decide_eq_decide.2 ?_)
      unfold fitP; omega
    · (repeat' (first|refine svz ⟨fun b hq=>?_⟩|refine svA ⟨?_⟩|refine svu ⟨fun u=>?_⟩|(refine svG (fun hc=>?_) (fun hc=>?_)<;>try exact svx)|refine svh (fun hb=>?_) (fun hb=>?_)|refine svb (fun b=>?_)|fail))
      refine fin_r (h' := h) ⟨?_, rfl⟩
      rw [decide_eq_false (show ¬ fitP a n by unfold fitP; omega)]
      simp [tupA]; try omega
  · (repeat' (first|refine svz ⟨fun b hq=>?_⟩|refine svA ⟨?_⟩|refine svu ⟨fun u=>?_⟩|(refine svG (fun hc=>?_) (fun hc=>?_)<;>try exact svx)|refine svh (fun hb=>?_) (fun hb=>?_)|refine svb (fun b=>?_)|fail))
    refine fin_r (h' := h) ⟨?_, rfl⟩
    rw [decide_eq_false (show ¬ fitP a n by unfold fitP; omega)]
    simp [tupA]; try omega
set_option maxRecDepth 100000 in
theorem counts_c (r : RC) (h : Heap) (ok : r.ok) : ACalls Tryz.prog 68 [r.enc] h (fun v h' => v = .val (.bool (decide r.cnt)) ∧ h' = h) := by
  refine ACalls.intro Tryz.func68 rfl Tryz.ntmps68 Tryz.results68 (Nat.le_of_ble_eq_true rfl) ?_
  (repeat' (first|refine svz ⟨fun b hq=>?_⟩|refine svA ⟨?_⟩|refine svu ⟨fun u=>?_⟩|(refine svG (fun hc=>?_) (fun hc=>?_)<;>try exact svx)|refine svh (fun hb=>?_) (fun hb=>?_)|refine svb (fun b=>?_)|fail))
  refine S.call ?_; refine (fits_c r.x r.w _ ok.x ok.w).mono ?_; rintro r h' ⟨rfl, hh⟩; subst hh
  by_cases h1 : fitP r.x r.w
  · rw [decide_eq_true h1]
    (repeat' (first|refine svz ⟨fun b hq=>?_⟩|refine svA ⟨?_⟩|refine svu ⟨fun u=>?_⟩|(refine svG (fun hc=>?_) (fun hc=>?_)<;>try exact svx)|refine svh (fun hb=>?_) (fun hb=>?_)|refine svb (fun b=>?_)|fail))
    refine S.call ?_; refine (fits_c r.y r.h _ ok.y ok.h).mono ?_; rintro r h' ⟨rfl, hh⟩; subst hh
    (repeat' (first|refine svz ⟨fun b hq=>?_⟩|refine svA ⟨?_⟩|refine svu ⟨fun u=>?_⟩|(refine svG (fun hc=>?_) (fun hc=>?_)<;>try exact svx)|refine svh (fun hb=>?_) (fun hb=>?_)|refine svb (fun b=>?_)|fail))
    refine fin_r (h' := h) ⟨?_, rfl⟩
    refine congrArg (fun b => AV.val (.bool b)) (decide_eq_decide.2 ?_)
    unfold RC.cnt; simp [h1]
  · rw [decide_eq_false h1]
    (repeat' (first|refine svz ⟨fun b hq=>?_⟩|refine svA ⟨?_⟩|refine svu ⟨fun u=>?_⟩|(refine svG (fun hc=>?_) (fun hc=>?_)<;>try exact svx)|refine svh (fun hb=>?_) (fun hb=>?_)|refine svb (fun b=>?_)|fail))
    refine fin_r (h' := h) ⟨?_, rfl⟩
    rw [decide_eq_false (show ¬ r.cnt from fun q => h1 q.1)]
    rfl
end Go.Proofs.YtfbegifmhgkpjaaGreat


/- The reference's Counts, In, Has, Area. No condition. -/
namespace Go.Proofs.YtfbegifmhgkpjaaGreat
open Go Go.VM
attribute [local irreducible] PurV Pur Step RL W D ACalls Then InBlock Fini
set_option linter.unusedVariables false
set_option linter.unusedSimpArgs false
set_option maxHeartbeats 20000000
def hasF (l : List RC) (x y : Int) : Bool := l.any fun r => decide r.cnt && decide (r.has x y)
end Go.Proofs.YtfbegifmhgkpjaaGreat


/- The reference's Same. No condition. -/
namespace Go.Proofs.YtfbegifmhgkpjaaGreat
open Go Go.VM
attribute [local irreducible] PurV Pur Step RL W D ACalls Then InBlock Fini
set_option linter.unusedVariables false
set_option linter.unusedSimpArgs false
set_option maxHeartbeats 20000000
instance : TEq Tryz.prog 52 4 := ⟨by kernel_rfl, by kernel_rfl, by kernel_rfl, by kernel_rfl, by kernel_rfl⟩
theorem RC.eq4 (r s : RC) : (∀ q ∈ [(IntKind.i64, r.x, s.x), (IntKind.i64, r.y, s.y), (IntKind.i64, r.w, s.w), (IntKind.i64, r.h, s.h)], q.2.1 = q.2.2) ↔ r = s := by
  obtain ⟨a, b, c, d⟩ := r
  obtain ⟨a', b', c', d'⟩ := s
  simp
end Go.Proofs.YtfbegifmhgkpjaaGreat

/- Areas; whether rows are alike. No condition. -/
namespace Go.Proofs.YtfbegifmhgkpjaaGreat
open Go Go.VM
attribute [local irreducible] PurV Pur Step RL W D ACalls Then InBlock Fini
set_option linter.unusedVariables false
set_option linter.unusedSimpArgs false
set_option maxHeartbeats 20000000
def areaF (l : List RC) : Int := (l.map fun r => r.w * r.h).sum
def RC.sm (r : RC) : Prop := 0 ≤ r.w ∧ r.w ≤ 2097152 ∧ 0 ≤ r.h ∧ r.h ≤ 2097152
theorem RC.cnt.sm {r : RC} (h : r.cnt) : r.sm := by
  obtain ⟨⟨h1, h2, h3⟩, ⟨h4, h5, h6⟩⟩ := h
  unfold RC.sm; omega
end Go.Proofs.YtfbegifmhgkpjaaGreat

namespace Go.Proofs.YtfbegifmhgkpjaaGreat
open Go Go.VM Go.Sort
attribute [local irreducible] PurV Pur Step RL W D ACalls Then InBlock Fini
set_option linter.unusedVariables false
set_option linter.unusedSimpArgs false
set_option maxHeartbeats 20000000
def swpL (l : List Int) (i j : Nat) : List Int := (l.set i (l.getD j 0)).set j (l.getD i 0)
theorem swpL_length (l : List Int) (i j : Nat) : (swpL l i j).length = l.length := by simp [swpL]
theorem arr_get (l : List Int) (i : Nat) : (l.toArray)[i]! = l.getD i 0 := by simp [List.getD]
theorem swpL_arr (l : List Int) (i j : Nat) : (swpL l i j).toArray = swp l.toArray i j := by
  unfold swpL swp
  rw [arr_get, arr_get]; simp
theorem getD_at {l : List Int} {i : Nat} (h : i < l.length) : l[i] = l.getD i 0 := by simp [List.getD, h]
theorem ints_set (k : IntKind) (l : List Int) (i : Nat) (x : Int) : (ints k l).set i (.val (.int k x)) = ints k (l.set i x) := by simp [ints, List.map_set]
set_option maxRecDepth 100000 in
theorem rev_c (l : List Int) (a b : Nat) (v : Value) (h : Heap) (hab : a ≤ b) (hb1 : 1 ≤ b) (hb : b ≤ l.length) (hn : l.length ≤ 1000000000000) :
    ACalls Tryz.prog 149 [.val v, .val (.int .i64 (a : Int)), .val (.int .i64 (b : Int))] (.own v 1 (ints .i64 l) 3 :: h) (fun r h' => r = .tup [] ∧ ∃ l', h' = .own v 1 (ints .i64 l') 3 :: h ∧ l'.toArray = reverseRange l.toArray a b) := by
  refine ACalls.intro Tryz.func149 rfl Tryz.ntmps149 Tryz.results149 (Nat.le_of_ble_eq_true rfl) ?_
  (repeat' (first|refine svz ⟨fun b hq=>?_⟩|refine svW ⟨?_⟩|refine svu ⟨fun u=>?_⟩|(refine svG (fun hc=>?_) (fun hc=>?_)<;>try exact svx)|refine svh (fun hb=>?_) (fun hb=>?_)|refine svb (fun b=>?_)|fail))
  refine W.loop (J := fun (x : Nat × Nat × List Int) => ⟨32, [(6, .val (.int .i64 (x.1 : Int))), (7, .val (.int .i64 (x.2.1 : Int))), (0, .val v)], .own v 1 (ints .i64 x.2.2) 3 :: h⟩)
    (Φ := fun x => x.1 ≤ l.length ∧ x.2.1 < l.length ∧ x.2.2.length = l.length ∧ reverseLoop x.1 x.2.1 x.2.2.toArray = reverseRange l.toArray a b) (μ := fun x => x.2.1 - x.1) (a, b - 1, l) (by dsimp only; rw [show (((b - 1 : Nat) : Int)) = (b : Int) - 1 from by omega]; exact lee) ⟨by dsimp only; omega, by dsimp only; omega, rfl, rfl⟩ ?_
  rintro ⟨i, j, m⟩ ⟨h1, h2, h3, h4⟩
  dsimp only at h1 h2 h3 h4 ⊢
  (repeat' (first|refine svz ⟨fun b hq=>?_⟩|refine svW ⟨?_⟩|refine svu ⟨fun u=>?_⟩|(refine svG (fun hc=>?_) (fun hc=>?_)<;>try exact svx)|refine svh (fun hb=>?_) (fun hb=>?_)|refine svb (fun b=>?_)|fail))
  · have h5 : reverseLoop (i + 1) (j - 1) (swpL m i j).toArray = reverseRange l.toArray a b := by
      rw [swpL_arr, ← h4]; conv => rhs; rw [reverseLoop, if_pos (by omega)]
    refine W.dend (.done _) ?_
    have e1 : ((ints .i64 m).set i (.val (.int .i64 m[j]))).set j (.val (.int .i64 m[i])) = ints .i64 (swpL m i j) := by rw [ints_set, ints_set, getD_at, getD_at]; rfl
    have e2 : (((j - 1 : Nat) : Int)) = (j : Int) - 1 := by omega
    have e3 : i + 1 ≤ l.length ∧ j - 1 < l.length ∧ (swpL m i j).length = l.length := ⟨by omega, by omega, by rw [swpL_length]; exact h3⟩
    refine D.T 0 ?_; refine D.T 1 ?_; refine D.T 2 ?_; refine D.T 3 ?_; refine D.T 4 ?_; refine D.T 5 ?_; refine D.V 6 ?_; refine D.T 8 ?_; refine D.T 9 ?_; refine D.V 10 ?_
    refine D.B2 7 11 ?_ ?_
    · (repeat' (first|refine svz ⟨fun b hq=>?_⟩|refine svW ⟨?_⟩|refine svu ⟨fun u=>?_⟩|(refine svG (fun hc=>?_) (fun hc=>?_)<;>try exact svx)|refine svh (fun hb=>?_) (fun hb=>?_)|refine svb (fun b=>?_)|fail))
      refine D.BL 11 ?_
      (repeat' (first|refine svz ⟨fun b hq=>?_⟩|refine svW ⟨?_⟩|refine svu ⟨fun u=>?_⟩|(refine svG (fun hc=>?_) (fun hc=>?_)<;>try exact svx)|refine svh (fun hb=>?_) (fun hb=>?_)|refine svb (fun b=>?_)|fail)); refine D.V 12 ?_; refine D.BL 13 ?_; (repeat' (first|refine svz ⟨fun b hq=>?_⟩|refine svW ⟨?_⟩|refine svu ⟨fun u=>?_⟩|(refine svG (fun hc=>?_) (fun hc=>?_)<;>try exact svx)|refine svh (fun hb=>?_) (fun hb=>?_)|refine svb (fun b=>?_)|fail)); refine D.V 14 ?_; refine D.BL 15 ?_; (repeat' (first|refine svz ⟨fun b hq=>?_⟩|refine svW ⟨?_⟩|refine svu ⟨fun u=>?_⟩|(refine svG (fun hc=>?_) (fun hc=>?_)<;>try exact svx)|refine svh (fun hb=>?_) (fun hb=>?_)|refine svb (fun b=>?_)|fail)); refine D.E ?_; (repeat' (first|refine svz ⟨fun b hq=>?_⟩|refine svW ⟨?_⟩|refine svu ⟨fun u=>?_⟩|(refine svG (fun hc=>?_) (fun hc=>?_)<;>try exact svx)|refine svh (fun hb=>?_) (fun hb=>?_)|refine svb (fun b=>?_)|fail)); exact ⟨(i + 1, j - 1, swpL m i j), ⟨e3.1, e3.2.1, e3.2.2, h5⟩, by dsimp only; rw [← e1, e2]; exact lee, by dsimp only; omega⟩
    · (repeat' (first|refine svz ⟨fun b hq=>?_⟩|refine svW ⟨?_⟩|refine svu ⟨fun u=>?_⟩|(refine svG (fun hc=>?_) (fun hc=>?_)<;>try exact svx)|refine svh (fun hb=>?_) (fun hb=>?_)|refine svb (fun b=>?_)|fail))
      refine D.BL 7 ?_
      (repeat' (first|refine svz ⟨fun b hq=>?_⟩|refine svW ⟨?_⟩|refine svu ⟨fun u=>?_⟩|(refine svG (fun hc=>?_) (fun hc=>?_)<;>try exact svx)|refine svh (fun hb=>?_) (fun hb=>?_)|refine svb (fun b=>?_)|fail)); refine D.V 12 ?_; refine D.BL 13 ?_; (repeat' (first|refine svz ⟨fun b hq=>?_⟩|refine svW ⟨?_⟩|refine svu ⟨fun u=>?_⟩|(refine svG (fun hc=>?_) (fun hc=>?_)<;>try exact svx)|refine svh (fun hb=>?_) (fun hb=>?_)|refine svb (fun b=>?_)|fail)); refine D.V 14 ?_; refine D.BL 15 ?_; (repeat' (first|refine svz ⟨fun b hq=>?_⟩|refine svW ⟨?_⟩|refine svu ⟨fun u=>?_⟩|(refine svG (fun hc=>?_) (fun hc=>?_)<;>try exact svx)|refine svh (fun hb=>?_) (fun hb=>?_)|refine svb (fun b=>?_)|fail)); refine D.E ?_; (repeat' (first|refine svz ⟨fun b hq=>?_⟩|refine svW ⟨?_⟩|refine svu ⟨fun u=>?_⟩|(refine svG (fun hc=>?_) (fun hc=>?_)<;>try exact svx)|refine svh (fun hb=>?_) (fun hb=>?_)|refine svb (fun b=>?_)|fail)); exact ⟨(i + 1, j - 1, swpL m i j), ⟨e3.1, e3.2.1, e3.2.2, h5⟩, by dsimp only; rw [← e1, e2]; exact lee, by dsimp only; omega⟩
  · exact fin_n (h' := .own v 1 (ints .i64 m) 3 :: h) ⟨rfl, m, rfl, by rw [← h4, reverseLoop, if_neg (by omega)]⟩
end Go.Proofs.YtfbegifmhgkpjaaGreat
