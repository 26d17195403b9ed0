import Derived.Test.YtkeclfcjmdhcfaaTy
import Derived.Test.YtkeclfcjmdhcfaaU3
import Derived.Test.YtkeclfcjmdhcfaaU4
namespace Go.Proofs
open Go Go.VM
set_option maxRecDepth 100000
instance : TBool Try.prog 4 := ⟨by kernel_rfl⟩
end Go.Proofs

/- Rectangles: which count, and what they have: band's and the reference's. No condition. -/
namespace Go.Proofs.Ytkeclfcjmdhcfaa
open Go Go.VM
attribute [local irreducible] PurV Pur Step RL W D ACalls Then InBlock Fini
set_option linter.unusedVariables false
set_option linter.unusedSimpArgs false
set_option maxHeartbeats 20000000
structure RC where
  x : Int
  y : Int
  w : Int
  h : Int
  deriving DecidableEq
def RC.enc (r : RC) : AV := .agg [.val (.int .i64 r.x), .val (.int .i64 r.y), .val (.int .i64 r.w), .val (.int .i64 r.h)]
/-- A number of Go's type int. -/
def I64 (n : Int) : Prop := -9223372036854775808 ≤ n ∧ n ≤ 9223372036854775807
structure RC.ok (r : RC) : Prop where
  x : I64 r.x
  y : I64 r.y
  w : I64 r.w
  h : I64 r.h
def fitP (a n : Int) : Prop := -1048576 ≤ a ∧ 0 < n ∧ a + n ≤ 1048576
instance (a n : Int) : Decidable (fitP a n) := inferInstanceAs (Decidable (_ ∧ _ ∧ _))
def RC.cnt (r : RC) : Prop := fitP r.x r.w ∧ fitP r.y r.h
instance (r : RC) : Decidable r.cnt := inferInstanceAs (Decidable (_ ∧ _))
def RC.has (r : RC) (x y : Int) : Prop := r.x ≤ x ∧ x < r.x + r.w ∧ r.y ≤ y ∧ y < r.y + r.h
instance (r : RC) (x y : Int) : Decidable (r.has x y) := inferInstanceAs (Decidable (_ ∧ _ ∧ _ ∧ _))
set_option maxRecDepth 100000 in
theorem fits_c (a n : Int) (h : Heap) (ha : I64 a) (hn : I64 n) : ACalls Try.prog 57 [.val (.int .i64 a), .val (.int .i64 n)] h (fun r h' => r = .val (.bool (decide (fitP a n))) ∧ h' = h) := by
  refine ACalls.intro Try.func57 rfl Try.ntmps57 Try.results57 (Nat.le_of_ble_eq_true rfl) ?_
  obtain ⟨a1, a2⟩ := ha
  obtain ⟨n1, n2⟩ := hn
  by_cases h1 : -1048576 ≤ a
  · by_cases h2 : 0 < n
    · (repeat' (first | (refine iS ?_; refine iMu ?_; refine S.mapU ?_) | refine svz ⟨fun b hq => ?_⟩ | refine sv1 ?_ | refine svs ⟨?_⟩ | refine svu ⟨fun u => ?_⟩ | (refine svg (fun hg => ?_) (fun hg => ?_) <;> try (exfalso; first | omega | contradiction)) | (refine svc (fun hc => ?_) (fun hc => ?_) <;> try (exfalso; first | omega | contradiction)) | refine sv2 ?_ | refine svh (fun hb => ?_) (fun hb => ?_) | refine svb (fun b => ?_) | refine sva ?_ | refine sv3 ?_))
      refine fin_r (h' := h) ⟨?_, rfl⟩
      refine congrArg (fun b => AV.val (.bool b)) (decide_eq_decide.2 ?_)
      unfold fitP; omega
    · (repeat' (first | (refine iS ?_; refine iMu ?_; refine S.mapU ?_) | refine svz ⟨fun b hq => ?_⟩ | refine sv1 ?_ | refine svs ⟨?_⟩ | refine svu ⟨fun u => ?_⟩ | (refine svg (fun hg => ?_) (fun hg => ?_) <;> try (exfalso; first | omega | contradiction)) | (refine svc (fun hc => ?_) (fun hc => ?_) <;> try (exfalso; first | omega | contradiction)) | refine sv2 ?_ | refine svh (fun hb => ?_) (fun hb => ?_) | refine svb (fun b => ?_) | refine sva ?_ | refine sv3 ?_))
      refine fin_r (h' := h) ⟨?_, rfl⟩
      rw [decide_eq_false (show ¬ fitP a n by unfold fitP; omega)]
      simp [tupA]; try omega
  · (repeat' (first | (refine iS ?_; refine iMu ?_; refine S.mapU ?_) | refine svz ⟨fun b hq => ?_⟩ | refine sv1 ?_ | refine svs ⟨?_⟩ | refine svu ⟨fun u => ?_⟩ | (refine svg (fun hg => ?_) (fun hg => ?_) <;> try (exfalso; first | omega | contradiction)) | (refine svc (fun hc => ?_) (fun hc => ?_) <;> try (exfalso; first | omega | contradiction)) | refine sv2 ?_ | refine svh (fun hb => ?_) (fun hb => ?_) | refine svb (fun b => ?_) | refine sva ?_ | refine sv3 ?_))
    refine fin_r (h' := h) ⟨?_, rfl⟩
    rw [decide_eq_false (show ¬ fitP a n by unfold fitP; omega)]
    simp [tupA]; try omega
set_option maxRecDepth 100000 in
theorem counts_c (r : RC) (h : Heap) (ok : r.ok) : ACalls Try.prog 39 [r.enc] h (fun v h' => v = .val (.bool (decide r.cnt)) ∧ h' = h) := by
  refine ACalls.intro Try.func39 rfl Try.ntmps39 Try.results39 (Nat.le_of_ble_eq_true rfl) ?_
  (repeat' (first | (refine iS ?_; refine iMu ?_; refine S.mapU ?_) | refine svz ⟨fun b hq => ?_⟩ | refine sv1 ?_ | refine svs ⟨?_⟩ | refine svu ⟨fun u => ?_⟩ | (refine svg (fun hg => ?_) (fun hg => ?_) <;> try (exfalso; first | omega | contradiction)) | (refine svc (fun hc => ?_) (fun hc => ?_) <;> try (exfalso; first | omega | contradiction)) | refine sv2 ?_ | refine svh (fun hb => ?_) (fun hb => ?_) | refine svb (fun b => ?_) | refine sva ?_ | refine sv3 ?_))
  refine S.call ?_; refine (fits_c r.x r.w _ ok.x ok.w).mono ?_; rintro r h' ⟨rfl, hh⟩; subst hh
  by_cases h1 : fitP r.x r.w
  · rw [decide_eq_true h1]
    (repeat' (first | (refine iS ?_; refine iMu ?_; refine S.mapU ?_) | refine svz ⟨fun b hq => ?_⟩ | refine sv1 ?_ | refine svs ⟨?_⟩ | refine svu ⟨fun u => ?_⟩ | (refine svg (fun hg => ?_) (fun hg => ?_) <;> try (exfalso; first | omega | contradiction)) | (refine svc (fun hc => ?_) (fun hc => ?_) <;> try (exfalso; first | omega | contradiction)) | refine sv2 ?_ | refine svh (fun hb => ?_) (fun hb => ?_) | refine svb (fun b => ?_) | refine sva ?_ | refine sv3 ?_))
    refine S.call ?_; refine (fits_c r.y r.h _ ok.y ok.h).mono ?_; rintro r h' ⟨rfl, hh⟩; subst hh
    (repeat' (first | (refine iS ?_; refine iMu ?_; refine S.mapU ?_) | refine svz ⟨fun b hq => ?_⟩ | refine sv1 ?_ | refine svs ⟨?_⟩ | refine svu ⟨fun u => ?_⟩ | (refine svg (fun hg => ?_) (fun hg => ?_) <;> try (exfalso; first | omega | contradiction)) | (refine svc (fun hc => ?_) (fun hc => ?_) <;> try (exfalso; first | omega | contradiction)) | refine sv2 ?_ | refine svh (fun hb => ?_) (fun hb => ?_) | refine svb (fun b => ?_) | refine sva ?_ | refine sv3 ?_))
    refine fin_r (h' := h) ⟨?_, rfl⟩
    refine congrArg (fun b => AV.val (.bool b)) (decide_eq_decide.2 ?_)
    unfold RC.cnt; simp [h1]
  · rw [decide_eq_false h1]
    (repeat' (first | (refine iS ?_; refine iMu ?_; refine S.mapU ?_) | refine svz ⟨fun b hq => ?_⟩ | refine sv1 ?_ | refine svs ⟨?_⟩ | refine svu ⟨fun u => ?_⟩ | (refine svg (fun hg => ?_) (fun hg => ?_) <;> try (exfalso; first | omega | contradiction)) | (refine svc (fun hc => ?_) (fun hc => ?_) <;> try (exfalso; first | omega | contradiction)) | refine sv2 ?_ | refine svh (fun hb => ?_) (fun hb => ?_) | refine svb (fun b => ?_) | refine sva ?_ | refine sv3 ?_))
    refine fin_r (h' := h) ⟨?_, rfl⟩
    rw [decide_eq_false (show ¬ r.cnt from fun q => h1 q.1)]
    rfl
end Go.Proofs.Ytkeclfcjmdhcfaa


/- The reference's Counts, In, Has, Area. No condition. -/
namespace Go.Proofs.Ytkeclfcjmdhcfaa
open Go Go.VM
attribute [local irreducible] PurV Pur Step RL W D ACalls Then InBlock Fini
set_option linter.unusedVariables false
set_option linter.unusedSimpArgs false
set_option maxHeartbeats 20000000
def hasF (l : List RC) (x y : Int) : Bool := l.any fun r => decide r.cnt && decide (r.has x y)
end Go.Proofs.Ytkeclfcjmdhcfaa
