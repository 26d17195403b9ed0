import Derived.Shelf.SlSortCmp.WholeK
import Derived.Test.YtbknacpdcdkjiaaGreatProg
import Derived.Test.YtbknacpdcdkjiaaGreatB12
import Derived.Test.YtbknacpdcdkjiaaGreatU5
/-
  DERIVED: THE SHELF's CONTRACTS AT THIS DUMP, IN PLAIN WORDS (tools/lay-plain.mjs out of 'YtbknacpdcdkjiaaGreatShelfLay.lean', which tools/lay-shelf.mjs wrote): THE SAME DECLARATIONS UNDER THE SAME NAMES: 'import', 'namespace', 'open', 'def', 'theorem' AND NOTHING ELSE: no command of the shelf's: FOR A HAND-IN. Each laying: the table of numbers ('.._ren') and one theorem, a field a fact of the dump's own or the kernel's comparison; each contract: ONE APPLICATION.
-/
namespace Go.Proofs
open Go.Shelf
def Tryz.sortR_ren : Go.Shelf.Ren := ⟨fun | 6 => 131 | 15 => 158 | 14 => 157 | 28 => 180 | 29 => 181 | 20 => 172 | 21 => 173 | 22 => 174 | 23 => 175 | 24 => 176 | 25 => 177 | 26 => 178 | 27 => 179 | 46 => 185 | 47 => 186 | 48 => 187 | 49 => 188 | 50 => 189 | 57 => 200 | n => n, fun | 22 => 112 | 24 => 200 | 25 => 244 | 3 => 3 | 39 => 270 | 0 => 0 | 53 => 37 | 55 => 292 | 4 => 4 | 46 => 285 | 45 => 284 | 50 => 203 | 5 => 5 | 9 => 9 | 66 => 296 | 70 => 231 | 76 => 306 | 77 => 211 | n => n, fun | n => n⟩
theorem Tryz.sortR : Go.Proofs.SlLaysF0.n6 Tryz.prog Tryz.sortR_ren := {
  mixed := by kernel_rfl
  f6 := ⟨Tryz.f131.name, by decide, Tryz.func131.trans (congrArg some (by kernel_rfl))⟩
  f14 := ⟨Tryz.f157.name, by decide, Tryz.func157.trans (congrArg some (by kernel_rfl))⟩
  f15 := Tryz.func158.trans (congrArg some (by kernel_rfl))
  f20 := ⟨Tryz.f172.name, by decide, Tryz.func172.trans (congrArg some (by kernel_rfl))⟩
  f21 := ⟨Tryz.f173.name, by decide, Tryz.func173.trans (congrArg some (by kernel_rfl))⟩
  f22 := ⟨Tryz.f174.name, by decide, Tryz.func174.trans (congrArg some (by kernel_rfl))⟩
  f23 := ⟨Tryz.f175.name, by decide, Tryz.func175.trans (congrArg some (by kernel_rfl))⟩
  f24 := ⟨Tryz.f176.name, by decide, Tryz.func176.trans (congrArg some (by kernel_rfl))⟩
  f25 := ⟨Tryz.f177.name, by decide, Tryz.func177.trans (congrArg some (by kernel_rfl))⟩
  f26 := ⟨Tryz.f178.name, by decide, Tryz.func178.trans (congrArg some (by kernel_rfl))⟩
  f27 := ⟨Tryz.f179.name, by decide, Tryz.func179.trans (congrArg some (by kernel_rfl))⟩
  f28 := Tryz.func180.trans (congrArg some (by kernel_rfl))
  f29 := Tryz.func181.trans (congrArg some (by kernel_rfl))
  f46 := ⟨Tryz.f185.name, by decide, Tryz.func185.trans (congrArg some (by kernel_rfl))⟩
  f47 := Tryz.func186.trans (congrArg some (by kernel_rfl))
  f48 := Tryz.func187.trans (congrArg some (by kernel_rfl))
  f49 := ⟨Tryz.f188.name, by decide, Tryz.func188.trans (congrArg some (by kernel_rfl))⟩
  f50 := ⟨Tryz.f189.name, by decide, Tryz.func189.trans (congrArg some (by kernel_rfl))⟩
  f57 := ⟨Tryz.f200.name, by decide, Tryz.func200.trans (congrArg some (by kernel_rfl))⟩
  t0 := Tryz.underlying0
  a0 := Tryz.isAgg0
  z0 := Tryz.sizeOf0
  v0 := Tryz.zeroValue0
  t3 := Tryz.underlying3
  a3 := Tryz.isAgg3
  z3 := Tryz.sizeOf3
  v3 := Tryz.zeroValue3
  t4 := Tryz.underlying4
  a4 := Tryz.isAgg4
  z4 := Tryz.sizeOf4
  v4 := Tryz.zeroValue4
  t5 := Tryz.underlying5
  a5 := Tryz.isAgg5
  z5 := Tryz.sizeOf5
  v5 := Tryz.zeroValue5
  t9 := Tryz.underlying9
  a9 := Tryz.isAgg9
  z9 := Tryz.sizeOf9
  v9 := Tryz.zeroValue9
  t22 := Tryz.underlying112
  a22 := Tryz.isAgg112
  z22 := Tryz.sizeOf112
  v22 := Tryz.zeroValue112
  t25 := Tryz.underlying244
  a25 := Tryz.isAgg244
  z25 := Tryz.sizeOf244
  v25 := Tryz.zeroValue244
  t39 := Tryz.underlying270
  a39 := Tryz.isAgg270
  z39 := Tryz.sizeOf270
  v39 := Tryz.zeroValue270
  t45 := Tryz.underlying284
  a45 := Tryz.isAgg284
  z45 := Tryz.sizeOf284
  v45 := Tryz.zeroValue284
  t46 := Tryz.underlying285
  a46 := Tryz.isAgg285
  z46 := Tryz.sizeOf285
  v46 := Tryz.zeroValue285
  t50 := Tryz.underlying203
  a50 := Tryz.isAgg203
  z50 := Tryz.sizeOf203
  v50 := Tryz.zeroValue203
  t53 := Tryz.underlying37
  a53 := Tryz.isAgg37
  z53 := Tryz.sizeOf37
  v53 := Tryz.zeroValue37
  t55 := Tryz.underlying292
  a55 := Tryz.isAgg292
  z55 := Tryz.sizeOf292
  v55 := Tryz.zeroValue292
  t66 := Tryz.underlying296
  a66 := Tryz.isAgg296
  z66 := Tryz.sizeOf296
  v66 := Tryz.zeroValue296
  t70 := Tryz.underlying231
  a70 := Tryz.isAgg231
  z70 := Tryz.sizeOf231
  v70 := Tryz.zeroValue231
  t76 := Tryz.underlying306
  a76 := Tryz.isAgg306
  z76 := Tryz.sizeOf306
  v76 := Tryz.zeroValue306
  t77 := Tryz.underlying211
  a77 := Tryz.isAgg211
  z77 := Tryz.sizeOf211
  v77 := Tryz.zeroValue211 }
end Go.Proofs

/- slices.SortFunc on rectangles, by band's two orders. No condition. -/
namespace Go.Proofs.YtbknacpdcdkjiaaGreat
open Go Go.VM Go.Sort
set_option linter.unusedVariables false
set_option linter.unusedSimpArgs false
instance : Inhabited RC := ⟨⟨0, 0, 0, 0⟩⟩
def RC.vals (r : RC) : List Value := [.int .i64 r.x, .int .i64 r.y, .int .i64 r.w, .int .i64 r.h]
theorem cmpI_lt (a b : Int) : cmpI a b < 0 ↔ a < b := by unfold cmpI; split; omega; split <;> omega
theorem cmpI_0 (a b : Int) : cmpI a b = 0 ↔ a = b := by unfold cmpI; split; omega; split <;> omega
theorem cmpYX_lt (a b : RC) : cmpYX a b < 0 ↔ a.y < b.y ∨ a.y = b.y ∧ a.x < b.x := by
  unfold cmpYX orI
  have h1 := cmpI_lt a.y b.y
  have h2 := cmpI_0 a.y b.y
  have h3 := cmpI_lt a.x b.x
  split <;> omega
theorem swoYX : SWO (Go.Proofs.ltOf cmpYX) where
  irrefl x := by unfold Go.Proofs.ltOf; rw [decide_eq_false]; rw [cmpYX_lt]; omega
  trans x y z h1 h2 := by unfold Go.Proofs.ltOf at *; rw [decide_eq_true_iff, cmpYX_lt] at *; omega
  ntrans x y z h1 h2 := by unfold Go.Proofs.ltOf at *; rw [decide_eq_false_iff_not, cmpYX_lt] at *; omega
def cmpX (a b : RC) : Int := cmpI a.x b.x
theorem swoX : SWO (Go.Proofs.ltOf cmpX) where
  irrefl x := by unfold Go.Proofs.ltOf cmpX; rw [decide_eq_false]; rw [cmpI_lt]; omega
  trans x y z h1 h2 := by unfold Go.Proofs.ltOf cmpX at *; rw [decide_eq_true_iff, cmpI_lt] at *; omega
  ntrans x y z h1 h2 := by unfold Go.Proofs.ltOf cmpX at *; rw [decide_eq_false_iff_not, cmpI_lt] at *; omega
theorem rc_agg (w : World) : (isAgg 200).run Tryz.prog w = .ok true w := Go.VM.run_isAgg (TVal.h (t := 200)) w
theorem rc_size (w : World) : (Go.sizeOf 200).run Tryz.prog w = .ok 4 w := Go.VM.run_sizeOf (TVal.h (t := 200)) w
theorem vals_one (r : RC) : ∀ v ∈ r.vals, v.oneCell' = true := by
  intro v hv
  unfold RC.vals at hv
  simp only [List.mem_cons, List.not_mem_nil, or_false] at hv
  rcases hv with rfl | rfl | rfl | rfl <;> rfl
instance : TFun Tryz.prog 132 := ⟨by kernel_rfl⟩
instance : TFun Tryz.prog 138 := ⟨by kernel_rfl⟩
theorem sortY_c (l : List RC) (v : Value) (e : Nat) (h : Heap) (hl : l.length < 4611686018427387904) :
    ACalls Tryz.prog 131 [.val v, .val (.func (.func 132) #[] #[])] (.own v 4 (l.map RC.enc) e :: h) (fun r h' => r = .tup [] ∧ ∃ l' : List RC, l'.Perm l ∧ l'.Pairwise (fun a b => a.y ≤ b.y) ∧ h' = .own v 4 (l'.map RC.enc) e :: h) := by
  refine (sortFunc_c (enc := RC.vals) Tryz.sortR (by omega) rc_agg rc_size (fun _ => rfl) vals_one cmpYX swoYX (fun a b => cmp1_c a b []) hl).mono ?_
  rintro r h' ⟨rfl, l', h1, h2, rfl⟩
  exact ⟨rfl, l', h1, h2.imp fun {a b} h => by unfold Go.Proofs.ltOf at h; rw [decide_eq_false_iff_not, cmpYX_lt] at h; omega, rfl⟩
theorem sortX_c (l : List RC) (v : Value) (e : Nat) (h : Heap) (hl : l.length < 4611686018427387904) :
    ACalls Tryz.prog 131 [.val v, .val (.func (.func 138) #[] #[])] (.own v 4 (l.map RC.enc) e :: h) (fun r h' => r = .tup [] ∧ ∃ l' : List RC, l'.Perm l ∧ l'.Pairwise (fun a b => a.x ≤ b.x) ∧ h' = .own v 4 (l'.map RC.enc) e :: h) := by
  refine (sortFunc_c (enc := RC.vals) Tryz.sortR (by omega) rc_agg rc_size (fun _ => rfl) vals_one cmpX swoX (fun a b => cmp3_c a b []) hl).mono ?_
  rintro r h' ⟨rfl, l', h1, h2, rfl⟩
  exact ⟨rfl, l', h1, h2.imp fun {a b} h => by unfold Go.Proofs.ltOf cmpX at h; rw [decide_eq_false_iff_not, cmpI_lt] at h; omega, rfl⟩
end Go.Proofs.YtbknacpdcdkjiaaGreat
