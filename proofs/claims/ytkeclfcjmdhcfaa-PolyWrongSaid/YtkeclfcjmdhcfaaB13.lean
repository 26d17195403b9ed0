/- slices.SortFunc on rectangles, by band's two orders. No condition. -/
import Derived.Test.YtkeclfcjmdhcfaaB12
import Derived.Test.YtkeclfcjmdhcfaaU5
import Derived.Test.YtkeclfcjmdhcfaaLay
namespace Go.Proofs.Ytkeclfcjmdhcfaa
open Go Go.VM Go.Sort
set_option linter.unusedVariables false
set_option linter.unusedSimpArgs false
instance : Inhabited RC := ⟨⟨0, 0, 0, 0⟩⟩
def RC.vals (r : RC) : List Value := [.int .i64 r.x, .int .i64 r.y, .int .i64 r.w, .int .i64 r.h]
theorem cmpI_lt (a b : Int) : cmpI a b < 0 ↔ a < b := by unfold cmpI; split; omega; split <;> omega
theorem cmpI_0 (a b : Int) : cmpI a b = 0 ↔ a = b := by unfold cmpI; split; omega; split <;> omega
theorem cmpYX_lt (a b : RC) : cmpYX a b < 0 ↔ a.y < b.y ∨ a.y = b.y ∧ a.x < b.x := by
  unfold cmpYX orI
  have h1 := cmpI_lt a.y b.y
  have h2 := cmpI_0 a.y b.y
  have h3 := cmpI_lt a.x b.x
  split <;> omega
theorem swoYX : SWO (Go.Proofs.ltOf cmpYX) where
  irrefl x := by unfold Go.Proofs.ltOf; rw [decide_eq_false]; rw [cmpYX_lt]; omega
  trans x y z h1 h2 := by unfold Go.Proofs.ltOf at *; rw [decide_eq_true_iff, cmpYX_lt] at *; omega
  ntrans x y z h1 h2 := by unfold Go.Proofs.ltOf at *; rw [decide_eq_false_iff_not, cmpYX_lt] at *; omega
def cmpX (a b : RC) : Int := cmpI a.x b.x
theorem swoX : SWO (Go.Proofs.ltOf cmpX) where
  irrefl x := by unfold Go.Proofs.ltOf cmpX; rw [decide_eq_false]; rw [cmpI_lt]; omega
  trans x y z h1 h2 := by unfold Go.Proofs.ltOf cmpX at *; rw [decide_eq_true_iff, cmpI_lt] at *; omega
  ntrans x y z h1 h2 := by unfold Go.Proofs.ltOf cmpX at *; rw [decide_eq_false_iff_not, cmpI_lt] at *; omega
theorem rc_agg (w : World) : (isAgg 60).run Try.prog w = .ok true w := Go.VM.run_isAgg (TVal.h (t := 60)) w
theorem rc_size (w : World) : (Go.sizeOf 60).run Try.prog w = .ok 4 w := Go.VM.run_sizeOf (TVal.h (t := 60)) w
theorem vals_one (r : RC) : ∀ v ∈ r.vals, v.oneCell' = true := by
  intro v hv
  unfold RC.vals at hv
  simp only [List.mem_cons, List.not_mem_nil, or_false] at hv
  rcases hv with rfl | rfl | rfl | rfl <;> rfl
instance : TFun Try.prog 41 := ⟨by kernel_rfl⟩
instance : TFun Try.prog 47 := ⟨by kernel_rfl⟩
theorem sortY_c (l : List RC) (v : Value) (e : Nat) (h : Heap) (hl : l.length < 4611686018427387904) :
    ACalls Try.prog 40 [.val v, .val (.func (.func 41) #[] #[])] (.own v 4 (l.map RC.enc) e :: h) (fun r h' => r = .tup [] ∧ ∃ l' : List RC, l'.Perm l ∧ l'.Pairwise (fun a b => a.y ≤ b.y) ∧ h' = .own v 4 (l'.map RC.enc) e :: h) := by
  refine (sortFunc_c (enc := RC.vals) Try.sortR (by omega) rc_agg rc_size (fun _ => rfl) vals_one cmpYX swoYX (fun a b => cmp1_c a b []) hl).mono ?_
  rintro r h' ⟨rfl, l', h1, h2, rfl⟩
  exact ⟨rfl, l', h1, h2.imp fun {a b} h => by unfold Go.Proofs.ltOf at h; rw [decide_eq_false_iff_not, cmpYX_lt] at h; omega, rfl⟩
theorem sortX_c (l : List RC) (v : Value) (e : Nat) (h : Heap) (hl : l.length < 4611686018427387904) :
    ACalls Try.prog 40 [.val v, .val (.func (.func 47) #[] #[])] (.own v 4 (l.map RC.enc) e :: h) (fun r h' => r = .tup [] ∧ ∃ l' : List RC, l'.Perm l ∧ l'.Pairwise (fun a b => a.x ≤ b.x) ∧ h' = .own v 4 (l'.map RC.enc) e :: h) := by
  refine (sortFunc_c (enc := RC.vals) Try.sortR (by omega) rc_agg rc_size (fun _ => rfl) vals_one cmpX swoX (fun a b => cmp3_c a b []) hl).mono ?_
  rintro r h' ⟨rfl, l', h1, h2, rfl⟩
  exact ⟨rfl, l', h1, h2.imp fun {a b} h => by unfold Go.Proofs.ltOf cmpX at h; rw [decide_eq_false_iff_not, cmpI_lt] at h; omega, rfl⟩
end Go.Proofs.Ytkeclfcjmdhcfaa
