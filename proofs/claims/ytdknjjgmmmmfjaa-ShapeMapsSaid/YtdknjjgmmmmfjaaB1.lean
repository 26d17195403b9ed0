import Derived.Test.YtdknjjgmmmmfjaaProg
import Derived.Test.YtdknjjgmmmmfjaaU2
import Derived.Test.YtdknjjgmmmmfjaaU3
namespace Go.Proofs
open Go Go.VM
set_option maxRecDepth 100000
instance : TVal Try.prog 3 false 1 := ⟨by kernel_rfl⟩
instance : TZero Try.prog 3 [.val (.int .i64 0)] := ⟨by kernel_rfl⟩
instance : TZel Try.prog 3 (.val (.int .i64 0)) := ⟨by kernel_rfl⟩
instance : TInt Try.prog 3 .i64 := ⟨by kernel_rfl⟩
instance : TVal Try.prog 5 false 1 := ⟨by kernel_rfl⟩
instance : TZel Try.prog 5 (.val (.int .u8 0)) := ⟨by kernel_rfl⟩
instance : TInt Try.prog 5 .u8 := ⟨by kernel_rfl⟩
instance : TVal Try.prog 9 false 1 := ⟨by kernel_rfl⟩
instance : TStr Try.prog 9 := ⟨by kernel_rfl⟩
instance : TElem Try.prog 23 63 4 4 true := ⟨by kernel_rfl⟩
instance : TVal Try.prog 26 false 1 := ⟨by kernel_rfl⟩
instance : TZero Try.prog 26 [.val (.slice none 0 0)] := ⟨by kernel_rfl⟩
instance : TElem Try.prog 26 43 4 32 true := ⟨by kernel_rfl⟩
instance : TVal Try.prog 29 true 1 := ⟨by kernel_rfl⟩
instance : TZero Try.prog 29 [.val (.slice none 0 0)] := ⟨by kernel_rfl⟩
instance : TFld Try.prog 29 0 0 1 false := ⟨by kernel_rfl⟩
instance : TPlaces Try.prog 29 [(0, 1)] := ⟨by kernel_rfl⟩
instance : TVal Try.prog 30 false 1 := ⟨by kernel_rfl⟩
instance : TZero Try.prog 30 [.val (.int .i64 0)] := ⟨by kernel_rfl⟩
instance : TVal Try.prog 43 true 4 := ⟨by kernel_rfl⟩
instance : TZero Try.prog 43 [.val (.int .i64 0), .val (.int .i64 0), .val (.int .i64 0), .val (.int .i64 0)] := ⟨by kernel_rfl⟩
instance : TZel Try.prog 43 (.agg [.val (.int .i64 0), .val (.int .i64 0), .val (.int .i64 0), .val (.int .i64 0)]) := ⟨by kernel_rfl⟩
instance : TFld Try.prog 43 0 0 1 false := ⟨by kernel_rfl⟩
instance : TFld Try.prog 43 1 1 1 false := ⟨by kernel_rfl⟩
instance : TFld Try.prog 43 2 2 1 false := ⟨by kernel_rfl⟩
instance : TFld Try.prog 43 3 3 1 false := ⟨by kernel_rfl⟩
instance : TPlaces Try.prog 43 [(0, 1), (1, 1), (2, 1), (3, 1)] := ⟨by kernel_rfl⟩
instance : TArr Try.prog 63 4 5 1 false := ⟨by kernel_rfl, by kernel_rfl⟩
instance : TElem Try.prog 71 3 1 8 false := ⟨by kernel_rfl⟩
instance : TVal Try.prog 78 true 2 := ⟨by kernel_rfl⟩
instance : TZero Try.prog 78 [.val (.int .i64 0), .val (.int .i64 0)] := ⟨by kernel_rfl⟩
instance : TFld Try.prog 78 0 0 1 false := ⟨by kernel_rfl⟩
instance : TFld Try.prog 78 1 1 1 false := ⟨by kernel_rfl⟩
instance : TPlaces Try.prog 78 [(0, 1), (1, 1)] := ⟨by kernel_rfl⟩
instance : TElem Try.prog 87 5 1 1 false := ⟨by kernel_rfl⟩
instance : TInt Try.prog 92 .u64 := ⟨by kernel_rfl⟩
instance : TVal Try.prog 99 false 1 := ⟨by kernel_rfl⟩
instance : TZero Try.prog 101 [.val (.nilFunc)] := ⟨by kernel_rfl⟩
instance : TFld Try.prog 101 0 0 1 false := ⟨by kernel_rfl⟩
instance : TPlaces Try.prog 101 [(0, 1)] := ⟨by kernel_rfl⟩
instance : TInt Try.prog 114 .u64 := ⟨by kernel_rfl⟩
instance : TVal Try.prog 119 true 1 := ⟨by kernel_rfl⟩
instance : TZero Try.prog 119 [.val (.slice none 0 0)] := ⟨by kernel_rfl⟩
instance : TFld Try.prog 119 0 0 1 false := ⟨by kernel_rfl⟩
instance : TPlaces Try.prog 119 [(0, 1)] := ⟨by kernel_rfl⟩
instance : TVal Try.prog 123 false 1 := ⟨by kernel_rfl⟩
instance : TZero Try.prog 123 [.val (.int .u64 0)] := ⟨by kernel_rfl⟩
instance : TInt Try.prog 123 .u64 := ⟨by kernel_rfl⟩
instance : TElem Try.prog 134 26 1 24 false := ⟨by kernel_rfl⟩
instance : TFun Try.prog 10 := ⟨by kernel_rfl⟩
instance : TFun Try.prog 11 := ⟨by kernel_rfl⟩
instance : TFun Try.prog 12 := ⟨by kernel_rfl⟩
instance : TFun Try.prog 13 := ⟨by kernel_rfl⟩
instance : TFun Try.prog 15 := ⟨by kernel_rfl⟩
instance : TFun Try.prog 16 := ⟨by kernel_rfl⟩
instance : TFun Try.prog 17 := ⟨by kernel_rfl⟩
instance : TFun Try.prog 19 := ⟨by kernel_rfl⟩
instance : TFun Try.prog 20 := ⟨by kernel_rfl⟩
instance : TFun Try.prog 22 := ⟨by kernel_rfl⟩
instance : TFun Try.prog 23 := ⟨by kernel_rfl⟩
instance : TFun Try.prog 24 := ⟨by kernel_rfl⟩
instance : TFun Try.prog 25 := ⟨by kernel_rfl⟩
instance : TFun Try.prog 26 := ⟨by kernel_rfl⟩
instance : TFun Try.prog 27 := ⟨by kernel_rfl⟩
instance : TFun Try.prog 28 := ⟨by kernel_rfl⟩
instance : TFun Try.prog 29 := ⟨by kernel_rfl⟩
instance : TFun Try.prog 32 := ⟨by kernel_rfl⟩
instance : TFun Try.prog 33 := ⟨by kernel_rfl⟩
instance : TFun Try.prog 34 := ⟨by kernel_rfl⟩
instance : TFun Try.prog 35 := ⟨by kernel_rfl⟩
instance : TFun Try.prog 36 := ⟨by kernel_rfl⟩
instance : TFun Try.prog 37 := ⟨by kernel_rfl⟩
instance : TFun Try.prog 39 := ⟨by kernel_rfl⟩
instance : TFun Try.prog 40 := ⟨by kernel_rfl⟩
instance : TFun Try.prog 41 := ⟨by kernel_rfl⟩
instance : TFun Try.prog 42 := ⟨by kernel_rfl⟩
instance : TFun Try.prog 45 := ⟨by kernel_rfl⟩
instance : TFun Try.prog 46 := ⟨by kernel_rfl⟩
instance : TFun Try.prog 47 := ⟨by kernel_rfl⟩
instance : TFun Try.prog 48 := ⟨by kernel_rfl⟩
instance : TFun Try.prog 49 := ⟨by kernel_rfl⟩
instance : TFun Try.prog 51 := ⟨by kernel_rfl⟩
instance : TFun Try.prog 52 := ⟨by kernel_rfl⟩
instance : TFun Try.prog 53 := ⟨by kernel_rfl⟩
instance : TFun Try.prog 54 := ⟨by kernel_rfl⟩
instance : TFun Try.prog 55 := ⟨by kernel_rfl⟩
instance : TFun Try.prog 56 := ⟨by kernel_rfl⟩
instance : TFun Try.prog 57 := ⟨by kernel_rfl⟩
instance : TFun Try.prog 58 := ⟨by kernel_rfl⟩
instance : TFun Try.prog 59 := ⟨by kernel_rfl⟩
instance : TFun Try.prog 60 := ⟨by kernel_rfl⟩
instance : TFun Try.prog 62 := ⟨by kernel_rfl⟩
instance : TFun Try.prog 63 := ⟨by kernel_rfl⟩
instance : TFun Try.prog 64 := ⟨by kernel_rfl⟩
instance : TFun Try.prog 65 := ⟨by kernel_rfl⟩
instance : TFun Try.prog 66 := ⟨by kernel_rfl⟩
instance : TFun Try.prog 68 := ⟨by kernel_rfl⟩
instance : TFun Try.prog 71 := ⟨by kernel_rfl⟩
instance : TFun Try.prog 74 := ⟨by kernel_rfl⟩
instance : TFun Try.prog 84 := ⟨by kernel_rfl⟩
instance : TFun Try.prog 85 := ⟨by kernel_rfl⟩
instance : TFun Try.prog 86 := ⟨by kernel_rfl⟩
instance : TFun Try.prog 88 := ⟨by kernel_rfl⟩
instance : TFun Try.prog 90 := ⟨by kernel_rfl⟩
instance : TFun Try.prog 92 := ⟨by kernel_rfl⟩
instance : TFun Try.prog 93 := ⟨by kernel_rfl⟩
instance : TFun Try.prog 96 := ⟨by kernel_rfl⟩
instance : TFun Try.prog 97 := ⟨by kernel_rfl⟩
instance : TFun Try.prog 98 := ⟨by kernel_rfl⟩
instance : TFun Try.prog 99 := ⟨by kernel_rfl⟩
instance : TFun Try.prog 100 := ⟨by kernel_rfl⟩
instance : TFun Try.prog 101 := ⟨by kernel_rfl⟩
instance : TFun Try.prog 102 := ⟨by kernel_rfl⟩
instance : TFun Try.prog 103 := ⟨by kernel_rfl⟩
instance : TFun Try.prog 104 := ⟨by kernel_rfl⟩
instance : TFun Try.prog 106 := ⟨by kernel_rfl⟩
instance : TFun Try.prog 107 := ⟨by kernel_rfl⟩
instance : TFun Try.prog 108 := ⟨by kernel_rfl⟩
instance : TFun Try.prog 109 := ⟨by kernel_rfl⟩
instance : TMix Try.prog := ⟨by kernel_rfl⟩
end Go.Proofs

namespace Go.Proofs
open Go Go.VM
set_option maxRecDepth 100000
instance : TBool Try.prog 4 := ⟨by kernel_rfl⟩
end Go.Proofs

/- Rectangles: which count, and what they have: band's and the reference's. No condition. -/
namespace Go.Proofs.Ytdknjjgmmmmfjaa
open Go Go.VM
attribute [local irreducible] PurV Pur Step RL W D ACalls Then InBlock Fini
set_option linter.unusedVariables false
set_option linter.unusedSimpArgs false
set_option maxHeartbeats 20000000
structure RC where
  x : Int
  y : Int
  w : Int
  h : Int
  deriving DecidableEq
def RC.enc (r : RC) : AV := .agg [.val (.int .i64 r.x), .val (.int .i64 r.y), .val (.int .i64 r.w), .val (.int .i64 r.h)]
/-- A number of Go's type int. -/
def I64 (n : Int) : Prop := -9223372036854775808 ≤ n ∧ n ≤ 9223372036854775807
structure RC.ok (r : RC) : Prop where
  x : I64 r.x
  y : I64 r.y
  w : I64 r.w
  h : I64 r.h
def fitP (a n : Int) : Prop := -1048576 ≤ a ∧ 0 < n ∧ a + n ≤ 1048576
instance (a n : Int) : Decidable (fitP a n) := inferInstanceAs (Decidable (_ ∧ _ ∧ _))
def RC.cnt (r : RC) : Prop := fitP r.x r.w ∧ fitP r.y r.h
instance (r : RC) : Decidable r.cnt := inferInstanceAs (Decidable (_ ∧ _))
def RC.has (r : RC) (x y : Int) : Prop := r.x ≤ x ∧ x < r.x + r.w ∧ r.y ≤ y ∧ y < r.y + r.h
instance (r : RC) (x y : Int) : Decidable (r.has x y) := inferInstanceAs (Decidable (_ ∧ _ ∧ _ ∧ _))
set_option maxRecDepth 100000 in
theorem fits_c (a n : Int) (h : Heap) (ha : I64 a) (hn : I64 n) : ACalls Try.prog 60 [.val (.int .i64 a), .val (.int .i64 n)] h (fun r h' => r = .val (.bool (decide (fitP a n))) ∧ h' = h) := by
  refine ACalls.intro Try.func60 rfl Try.ntmps60 Try.results60 (Nat.le_of_ble_eq_true rfl) ?_
  obtain ⟨a1, a2⟩ := ha
  obtain ⟨n1, n2⟩ := hn
  by_cases h1 : -1048576 ≤ a
  · by_cases h2 : 0 < n
    · (repeat' (first | (refine iS ?_; refine iMu ?_; refine S.mapU ?_) | refine svz ⟨fun b hq => ?_⟩ | refine sv1 ?_ | refine svs ⟨?_⟩ | refine svu ⟨fun u => ?_⟩ | (refine svg (fun hg => ?_) (fun hg => ?_) <;> try (exfalso; first | omega | contradiction)) | (refine svc (fun hc => ?_) (fun hc => ?_) <;> try (exfalso; first | omega | contradiction)) | refine sv2 ?_ | refine svh (fun hb => ?_) (fun hb => ?_) | refine svb (fun b => ?_) | refine sva ?_ | refine sv3 ?_))
      refine fin_r (h' := h) ⟨?_, rfl⟩
      refine congrArg (fun b => AV.val (.bool b)) (decide_eq_decide.2 ?_)
      unfold fitP; omega
    · (repeat' (first | (refine iS ?_; refine iMu ?_; refine S.mapU ?_) | refine svz ⟨fun b hq => ?_⟩ | refine sv1 ?_ | refine svs ⟨?_⟩ | refine svu ⟨fun u => ?_⟩ | (refine svg (fun hg => ?_) (fun hg => ?_) <;> try (exfalso; first | omega | contradiction)) | (refine svc (fun hc => ?_) (fun hc => ?_) <;> try (exfalso; first | omega | contradiction)) | refine sv2 ?_ | refine svh (fun hb => ?_) (fun hb => ?_) | refine svb (fun b => ?_) | refine sva ?_ | refine sv3 ?_))
      refine fin_r (h' := h) ⟨?_, rfl⟩
      rw [decide_eq_false (show ¬ fitP a n by unfold fitP; omega)]
      simp [tupA]; try omega
  · (repeat' (first | (refine iS ?_; refine iMu ?_; refine S.mapU ?_) | refine svz ⟨fun b hq => ?_⟩ | refine sv1 ?_ | refine svs ⟨?_⟩ | refine svu ⟨fun u => ?_⟩ | (refine svg (fun hg => ?_) (fun hg => ?_) <;> try (exfalso; first | omega | contradiction)) | (refine svc (fun hc => ?_) (fun hc => ?_) <;> try (exfalso; first | omega | contradiction)) | refine sv2 ?_ | refine svh (fun hb => ?_) (fun hb => ?_) | refine svb (fun b => ?_) | refine sva ?_ | refine sv3 ?_))
    refine fin_r (h' := h) ⟨?_, rfl⟩
    rw [decide_eq_false (show ¬ fitP a n by unfold fitP; omega)]
    simp [tupA]; try omega
set_option maxRecDepth 100000 in
theorem counts_c (r : RC) (h : Heap) (ok : r.ok) : ACalls Try.prog 36 [r.enc] h (fun v h' => v = .val (.bool (decide r.cnt)) ∧ h' = h) := by
  refine ACalls.intro Try.func36 rfl Try.ntmps36 Try.results36 (Nat.le_of_ble_eq_true rfl) ?_
  (repeat' (first | (refine iS ?_; refine iMu ?_; refine S.mapU ?_) | refine svz ⟨fun b hq => ?_⟩ | refine sv1 ?_ | refine svs ⟨?_⟩ | refine svu ⟨fun u => ?_⟩ | (refine svg (fun hg => ?_) (fun hg => ?_) <;> try (exfalso; first | omega | contradiction)) | (refine svc (fun hc => ?_) (fun hc => ?_) <;> try (exfalso; first | omega | contradiction)) | refine sv2 ?_ | refine svh (fun hb => ?_) (fun hb => ?_) | refine svb (fun b => ?_) | refine sva ?_ | refine sv3 ?_))
  refine S.call ?_; refine (fits_c r.x r.w _ ok.x ok.w).mono ?_; rintro r h' ⟨rfl, hh⟩; subst hh
  by_cases h1 : fitP r.x r.w
  · rw [decide_eq_true h1]
    (repeat' (first | (refine iS ?_; refine iMu ?_; refine S.mapU ?_) | refine svz ⟨fun b hq => ?_⟩ | refine sv1 ?_ | refine svs ⟨?_⟩ | refine svu ⟨fun u => ?_⟩ | (refine svg (fun hg => ?_) (fun hg => ?_) <;> try (exfalso; first | omega | contradiction)) | (refine svc (fun hc => ?_) (fun hc => ?_) <;> try (exfalso; first | omega | contradiction)) | refine sv2 ?_ | refine svh (fun hb => ?_) (fun hb => ?_) | refine svb (fun b => ?_) | refine sva ?_ | refine sv3 ?_))
    refine S.call ?_; refine (fits_c r.y r.h _ ok.y ok.h).mono ?_; rintro r h' ⟨rfl, hh⟩; subst hh
    (repeat' (first | (refine iS ?_; refine iMu ?_; refine S.mapU ?_) | refine svz ⟨fun b hq => ?_⟩ | refine sv1 ?_ | refine svs ⟨?_⟩ | refine svu ⟨fun u => ?_⟩ | (refine svg (fun hg => ?_) (fun hg => ?_) <;> try (exfalso; first | omega | contradiction)) | (refine svc (fun hc => ?_) (fun hc => ?_) <;> try (exfalso; first | omega | contradiction)) | refine sv2 ?_ | refine svh (fun hb => ?_) (fun hb => ?_) | refine svb (fun b => ?_) | refine sva ?_ | refine sv3 ?_))
    refine fin_r (h' := h) ⟨?_, rfl⟩
    refine congrArg (fun b => AV.val (.bool b)) (decide_eq_decide.2 ?_)
    unfold RC.cnt; simp [h1]
  · rw [decide_eq_false h1]
    (repeat' (first | (refine iS ?_; refine iMu ?_; refine S.mapU ?_) | refine svz ⟨fun b hq => ?_⟩ | refine sv1 ?_ | refine svs ⟨?_⟩ | refine svu ⟨fun u => ?_⟩ | (refine svg (fun hg => ?_) (fun hg => ?_) <;> try (exfalso; first | omega | contradiction)) | (refine svc (fun hc => ?_) (fun hc => ?_) <;> try (exfalso; first | omega | contradiction)) | refine sv2 ?_ | refine svh (fun hb => ?_) (fun hb => ?_) | refine svb (fun b => ?_) | refine sva ?_ | refine sv3 ?_))
    refine fin_r (h' := h) ⟨?_, rfl⟩
    rw [decide_eq_false (show ¬ r.cnt from fun q => h1 q.1)]
    rfl
end Go.Proofs.Ytdknjjgmmmmfjaa
