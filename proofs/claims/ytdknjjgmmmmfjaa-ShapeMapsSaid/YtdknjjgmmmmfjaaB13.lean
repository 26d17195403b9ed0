import Derived.Shelf.SlSortCmp.WholeK
import Derived.Test.YtdknjjgmmmmfjaaProg
import Derived.Test.YtdknjjgmmmmfjaaB12
import Derived.Test.YtdknjjgmmmmfjaaU5
/-
  DERIVED: THE SHELF's CONTRACTS AT THIS DUMP, IN PLAIN WORDS (tools/lay-plain.mjs out of 'YtdknjjgmmmmfjaaShelf.lean', which tools/lay-shelf.mjs wrote): THE SAME DECLARATIONS UNDER THE SAME NAMES: 'import', 'namespace', 'open', 'def', 'theorem' AND NOTHING ELSE: no command of the shelf's: FOR A HAND-IN. Each laying: the table of numbers ('.._ren') and one theorem, a field a fact of the dump's own or the kernel's comparison; each contract: ONE APPLICATION.
-/
namespace Go.Proofs
open Go.Shelf
def Try.sortR_ren : Go.Shelf.Ren := ⟨fun | 6 => 37 | 15 => 62 | 14 => 61 | 28 => 83 | 29 => 84 | 20 => 75 | 21 => 76 | 22 => 77 | 23 => 78 | 24 => 79 | 25 => 80 | 26 => 81 | 27 => 82 | 46 => 91 | 47 => 92 | 48 => 93 | 49 => 94 | 50 => 95 | 57 => 105 | n => n, fun | 22 => 26 | 24 => 43 | 25 => 70 | 3 => 3 | 39 => 92 | 0 => 0 | 53 => 112 | 55 => 114 | 4 => 4 | 46 => 105 | 45 => 104 | 50 => 109 | 5 => 5 | 9 => 9 | 66 => 123 | 70 => 127 | 76 => 137 | 77 => 135 | n => n, fun | n => n⟩
theorem Try.sortR : Go.Proofs.SlLaysF0.n6 Try.prog Try.sortR_ren := {
  mixed := by kernel_rfl
  f6 := ⟨Try.f37.name, by decide, Try.func37.trans (congrArg some (by kernel_rfl))⟩
  f14 := ⟨Try.f61.name, by decide, Try.func61.trans (congrArg some (by kernel_rfl))⟩
  f15 := Try.func62.trans (congrArg some (by kernel_rfl))
  f20 := ⟨Try.f75.name, by decide, Try.func75.trans (congrArg some (by kernel_rfl))⟩
  f21 := ⟨Try.f76.name, by decide, Try.func76.trans (congrArg some (by kernel_rfl))⟩
  f22 := ⟨Try.f77.name, by decide, Try.func77.trans (congrArg some (by kernel_rfl))⟩
  f23 := ⟨Try.f78.name, by decide, Try.func78.trans (congrArg some (by kernel_rfl))⟩
  f24 := ⟨Try.f79.name, by decide, Try.func79.trans (congrArg some (by kernel_rfl))⟩
  f25 := ⟨Try.f80.name, by decide, Try.func80.trans (congrArg some (by kernel_rfl))⟩
  f26 := ⟨Try.f81.name, by decide, Try.func81.trans (congrArg some (by kernel_rfl))⟩
  f27 := ⟨Try.f82.name, by decide, Try.func82.trans (congrArg some (by kernel_rfl))⟩
  f28 := Try.func83.trans (congrArg some (by kernel_rfl))
  f29 := Try.func84.trans (congrArg some (by kernel_rfl))
  f46 := ⟨Try.f91.name, by decide, Try.func91.trans (congrArg some (by kernel_rfl))⟩
  f47 := Try.func92.trans (congrArg some (by kernel_rfl))
  f48 := Try.func93.trans (congrArg some (by kernel_rfl))
  f49 := ⟨Try.f94.name, by decide, Try.func94.trans (congrArg some (by kernel_rfl))⟩
  f50 := ⟨Try.f95.name, by decide, Try.func95.trans (congrArg some (by kernel_rfl))⟩
  f57 := ⟨Try.f105.name, by decide, Try.func105.trans (congrArg some (by kernel_rfl))⟩
  t0 := Try.underlying0
  a0 := Try.isAgg0
  z0 := Try.sizeOf0
  v0 := Try.zeroValue0
  t3 := Try.underlying3
  a3 := Try.isAgg3
  z3 := Try.sizeOf3
  v3 := Try.zeroValue3
  t4 := Try.underlying4
  a4 := Try.isAgg4
  z4 := Try.sizeOf4
  v4 := Try.zeroValue4
  t5 := Try.underlying5
  a5 := Try.isAgg5
  z5 := Try.sizeOf5
  v5 := Try.zeroValue5
  t9 := Try.underlying9
  a9 := Try.isAgg9
  z9 := Try.sizeOf9
  v9 := Try.zeroValue9
  t22 := Try.underlying26
  a22 := Try.isAgg26
  z22 := Try.sizeOf26
  v22 := Try.zeroValue26
  t25 := Try.underlying70
  a25 := Try.isAgg70
  z25 := Try.sizeOf70
  v25 := Try.zeroValue70
  t39 := Try.underlying92
  a39 := Try.isAgg92
  z39 := Try.sizeOf92
  v39 := Try.zeroValue92
  t45 := Try.underlying104
  a45 := Try.isAgg104
  z45 := Try.sizeOf104
  v45 := Try.zeroValue104
  t46 := Try.underlying105
  a46 := Try.isAgg105
  z46 := Try.sizeOf105
  v46 := Try.zeroValue105
  t50 := Try.underlying109
  a50 := Try.isAgg109
  z50 := Try.sizeOf109
  v50 := Try.zeroValue109
  t53 := Try.underlying112
  a53 := Try.isAgg112
  z53 := Try.sizeOf112
  v53 := Try.zeroValue112
  t55 := Try.underlying114
  a55 := Try.isAgg114
  z55 := Try.sizeOf114
  v55 := Try.zeroValue114
  t66 := Try.underlying123
  a66 := Try.isAgg123
  z66 := Try.sizeOf123
  v66 := Try.zeroValue123
  t70 := Try.underlying127
  a70 := Try.isAgg127
  z70 := Try.sizeOf127
  v70 := Try.zeroValue127
  t76 := Try.underlying137
  a76 := Try.isAgg137
  z76 := Try.sizeOf137
  v76 := Try.zeroValue137
  t77 := Try.underlying135
  a77 := Try.isAgg135
  z77 := Try.sizeOf135
  v77 := Try.zeroValue135 }
end Go.Proofs

/- slices.SortFunc on rectangles, by band's two orders. No condition. -/
namespace Go.Proofs.Ytdknjjgmmmmfjaa
open Go Go.VM Go.Sort
set_option linter.unusedVariables false
set_option linter.unusedSimpArgs false
instance : Inhabited RC := ⟨⟨0, 0, 0, 0⟩⟩
def RC.vals (r : RC) : List Value := [.int .i64 r.x, .int .i64 r.y, .int .i64 r.w, .int .i64 r.h]
theorem cmpI_lt (a b : Int) : cmpI a b < 0 ↔ a < b := by unfold cmpI; split; omega; split <;> omega
theorem cmpI_0 (a b : Int) : cmpI a b = 0 ↔ a = b := by unfold cmpI; split; omega; split <;> omega
theorem cmpYX_lt (a b : RC) : cmpYX a b < 0 ↔ a.y < b.y ∨ a.y = b.y ∧ a.x < b.x := by
  unfold cmpYX orI
  have h1 := cmpI_lt a.y b.y
  have h2 := cmpI_0 a.y b.y
  have h3 := cmpI_lt a.x b.x
  split <;> omega
theorem swoYX : SWO (Go.Proofs.ltOf cmpYX) where
  irrefl x := by unfold Go.Proofs.ltOf; rw [decide_eq_false]; rw [cmpYX_lt]; omega
  trans x y z h1 h2 := by unfold Go.Proofs.ltOf at *; rw [decide_eq_true_iff, cmpYX_lt] at *; omega
  ntrans x y z h1 h2 := by unfold Go.Proofs.ltOf at *; rw [decide_eq_false_iff_not, cmpYX_lt] at *; omega
def cmpX (a b : RC) : Int := cmpI a.x b.x
theorem swoX : SWO (Go.Proofs.ltOf cmpX) where
  irrefl x := by unfold Go.Proofs.ltOf cmpX; rw [decide_eq_false]; rw [cmpI_lt]; omega
  trans x y z h1 h2 := by unfold Go.Proofs.ltOf cmpX at *; rw [decide_eq_true_iff, cmpI_lt] at *; omega
  ntrans x y z h1 h2 := by unfold Go.Proofs.ltOf cmpX at *; rw [decide_eq_false_iff_not, cmpI_lt] at *; omega
theorem rc_agg (w : World) : (isAgg 43).run Try.prog w = .ok true w := Go.VM.run_isAgg (TVal.h (t := 43)) w
theorem rc_size (w : World) : (Go.sizeOf 43).run Try.prog w = .ok 4 w := Go.VM.run_sizeOf (TVal.h (t := 43)) w
theorem vals_one (r : RC) : ∀ v ∈ r.vals, v.oneCell' = true := by
  intro v hv
  unfold RC.vals at hv
  simp only [List.mem_cons, List.not_mem_nil, or_false] at hv
  rcases hv with rfl | rfl | rfl | rfl <;> rfl
instance : TFun Try.prog 38 := ⟨by kernel_rfl⟩
instance : TFun Try.prog 44 := ⟨by kernel_rfl⟩
theorem sortY_c (l : List RC) (v : Value) (e : Nat) (h : Heap) (hl : l.length < 4611686018427387904) :
    ACalls Try.prog 37 [.val v, .val (.func (.func 38) #[] #[])] (.own v 4 (l.map RC.enc) e :: h) (fun r h' => r = .tup [] ∧ ∃ l' : List RC, l'.Perm l ∧ l'.Pairwise (fun a b => a.y ≤ b.y) ∧ h' = .own v 4 (l'.map RC.enc) e :: h) := by
  refine (sortFunc_c (enc := RC.vals) Try.sortR (by omega) rc_agg rc_size (fun _ => rfl) vals_one cmpYX swoYX (fun a b => cmp1_c a b []) hl).mono ?_
  rintro r h' ⟨rfl, l', h1, h2, rfl⟩
  exact ⟨rfl, l', h1, h2.imp fun {a b} h => by unfold Go.Proofs.ltOf at h; rw [decide_eq_false_iff_not, cmpYX_lt] at h; omega, rfl⟩
theorem sortX_c (l : List RC) (v : Value) (e : Nat) (h : Heap) (hl : l.length < 4611686018427387904) :
    ACalls Try.prog 37 [.val v, .val (.func (.func 44) #[] #[])] (.own v 4 (l.map RC.enc) e :: h) (fun r h' => r = .tup [] ∧ ∃ l' : List RC, l'.Perm l ∧ l'.Pairwise (fun a b => a.x ≤ b.x) ∧ h' = .own v 4 (l'.map RC.enc) e :: h) := by
  refine (sortFunc_c (enc := RC.vals) Try.sortR (by omega) rc_agg rc_size (fun _ => rfl) vals_one cmpX swoX (fun a b => cmp3_c a b []) hl).mono ?_
  rintro r h' ⟨rfl, l', h1, h2, rfl⟩
  exact ⟨rfl, l', h1, h2.imp fun {a b} h => by unfold Go.Proofs.ltOf cmpX at h; rw [decide_eq_false_iff_not, cmpI_lt] at h; omega, rfl⟩
end Go.Proofs.Ytdknjjgmmmmfjaa
