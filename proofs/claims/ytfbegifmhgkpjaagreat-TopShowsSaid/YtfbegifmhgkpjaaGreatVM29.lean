import Derived.Test.YtfbegifmhgkpjaaGreatTy
import Derived.Test.YtfbegifmhgkpjaaGreatS1
import Derived.Test.YtfbegifmhgkpjaaGreatU3
import Derived.Test.YtfbegifmhgkpjaaGreatU4
import Derived.Laws.BytesString

/- ident; saveset.check; lists of ids: Contains, Clone. No condition. -/
namespace Go.Proofs.YtfbegifmhgkpjaaGreat
open Go Go.VM
attribute [local irreducible] PurV Pur Step RL W D ACalls Then InBlock Fini
set_option linter.unusedVariables false
set_option linter.unusedSimpArgs false
set_option maxHeartbeats 20000000
def isC (c : Int) : Bool := decide (1 ≤ c ∧ c ≤ 8)
set_option maxRecDepth 100000 in
theorem isc_c (c : Int) (h : Heap) : ACalls Tryz.prog 126 [.val (.int .i64 (c))] h (fun r h' => r = .val (.bool (isC c)) ∧ h' = h) := by
  refine ACalls.intro Tryz.func126 rfl Tryz.ntmps126 Tryz.results126 (Nat.le_of_ble_eq_true rfl) ?_
  by_cases h1 : 1 ≤ c
  · (repeat' (first|refine svz ⟨fun b hq=>?_⟩|refine svA ⟨?_⟩|refine svu ⟨fun u=>?_⟩|(refine svG (fun hc=>?_) (fun hc=>?_)<;>try exact svx)|refine svh (fun hb=>?_) (fun hb=>?_)|refine svb (fun b=>?_)|fail))
    refine fin_r (h' := h) ⟨?_, rfl⟩; simp [tupA, isC, h1]
  · (repeat' (first|refine svz ⟨fun b hq=>?_⟩|refine svA ⟨?_⟩|refine svu ⟨fun u=>?_⟩|(refine svG (fun hc=>?_) (fun hc=>?_)<;>try exact svx)|refine svh (fun hb=>?_) (fun hb=>?_)|refine svb (fun b=>?_)|fail))
    refine fin_r (h' := h) ⟨?_, rfl⟩; simp [tupA, isC, h1]
def cliF (id : Int) : Int × Bool := if id = 1 then (0, true) else if id % 1048576 = 0 ∨ isC (id / 1048576) = false then (0, false) else (id / 1048576, true)
set_option maxRecDepth 100000 in
theorem cli_c (id : Int) (h : Heap) (h0 : 0 ≤ id) (h1 : id ≤ 4294967295) : ACalls Tryz.prog 101 [.val (.int .u32 (id))] h (fun r h' => r = .tup [.val (.int .i64 ((cliF id).1)), .val (.bool (cliF id).2)] ∧ h' = h) := by
  refine ACalls.intro Tryz.func101 rfl Tryz.ntmps101 Tryz.results101 (Nat.le_of_ble_eq_true rfl) ?_
  by_cases h2 : id = 1
  · (repeat' (first|refine svz ⟨fun b hq=>?_⟩|refine svA ⟨?_⟩|refine svu ⟨fun u=>?_⟩|(refine svG (fun hc=>?_) (fun hc=>?_)<;>try exact svx)|refine svh (fun hb=>?_) (fun hb=>?_)|refine svb (fun b=>?_)|fail))
    refine fin_r (h' := h) ⟨?_, rfl⟩; simp [tupA, cliF, h2]
  by_cases h3 : id % 1048576 = 0
  · (repeat' (first|refine svz ⟨fun b hq=>?_⟩|refine svA ⟨?_⟩|refine svu ⟨fun u=>?_⟩|(refine svG (fun hc=>?_) (fun hc=>?_)<;>try exact svx)|refine svh (fun hb=>?_) (fun hb=>?_)|refine svb (fun b=>?_)|fail))
    refine fin_r (h' := h) ⟨?_, rfl⟩; simp [tupA, cliF, h2, h3]
  · (repeat' (first|refine svz ⟨fun b hq=>?_⟩|refine svA ⟨?_⟩|refine svu ⟨fun u=>?_⟩|(refine svG (fun hc=>?_) (fun hc=>?_)<;>try exact svx)|refine svh (fun hb=>?_) (fun hb=>?_)|refine svb (fun b=>?_)|fail))
    refine S.call ?_
    refine (isc_c _ _).mono ?_
    rintro r h' ⟨rfl, hh⟩
    subst hh
    cases h4 : isC (id / 1048576)
    · (repeat' (first|refine svz ⟨fun b hq=>?_⟩|refine svA ⟨?_⟩|refine svu ⟨fun u=>?_⟩|(refine svG (fun hc=>?_) (fun hc=>?_)<;>try exact svx)|refine svh (fun hb=>?_) (fun hb=>?_)|refine svb (fun b=>?_)|fail))
      refine fin_r (h' := h') ⟨?_, rfl⟩; simp [tupA, cliF, h2, h3, h4]
    · (repeat' (first|refine svz ⟨fun b hq=>?_⟩|refine svA ⟨?_⟩|refine svu ⟨fun u=>?_⟩|(refine svG (fun hc=>?_) (fun hc=>?_)<;>try exact svx)|refine svh (fun hb=>?_) (fun hb=>?_)|refine svb (fun b=>?_)|fail))
      refine fin_r (h' := h') ⟨?_, rfl⟩; simp [tupA, cliF, h2, h3, h4]
def icF (id : Int) : Int := if id = 0 then 6 else if (cliF id).2 then 0 else 1
set_option maxRecDepth 100000 in
theorem icheck_c (id : Int) (h : Heap) (h0 : 0 ≤ id) (h1 : id ≤ 4294967295) : ACalls Tryz.prog 51 [.val (.int .u32 (id))] h (fun r h' => r = .val (.int .i64 (icF id)) ∧ h' = h) := by
  by_cases hz : id = 0
  · rw [show icF id = 6 by unfold icF; rw [if_pos hz]]
    refine ACalls.intro Tryz.func51 rfl Tryz.ntmps51 Tryz.results51 (Nat.le_of_ble_eq_true rfl) ?_
    (repeat' (first|refine svz ⟨fun b hq=>?_⟩|refine svA ⟨?_⟩|refine svu ⟨fun u=>?_⟩|(refine svG (fun hc=>?_) (fun hc=>?_)<;>try exact svx)|refine svh (fun hb=>?_) (fun hb=>?_)|refine svb (fun b=>?_)|fail))
    exact fin_r (h' := h) ⟨rfl, rfl⟩
  have c1 := fun h => cli_c id h h0 h1
  have e : icF id = if (cliF id).2 then 0 else 1 := by unfold icF; rw [if_neg hz]
  rw [e]
  generalize cliF id = p at *
  obtain ⟨c, b⟩ := p
  dsimp only at *
  cases b
  · refine ACalls.intro Tryz.func51 rfl Tryz.ntmps51 Tryz.results51 (Nat.le_of_ble_eq_true rfl) ?_
    (repeat' (first|refine svz ⟨fun b hq=>?_⟩|refine svA ⟨?_⟩|refine svu ⟨fun u=>?_⟩|(refine svG (fun hc=>?_) (fun hc=>?_)<;>try exact svx)|refine svh (fun hb=>?_) (fun hb=>?_)|refine svb (fun b=>?_)|fail))
    refine S.call ?_; refine (c1 _).mono ?_; rintro r h' ⟨rfl, hh⟩; subst hh
    (repeat' (first|refine svz ⟨fun b hq=>?_⟩|refine svA ⟨?_⟩|refine svu ⟨fun u=>?_⟩|(refine svG (fun hc=>?_) (fun hc=>?_)<;>try exact svx)|refine svh (fun hb=>?_) (fun hb=>?_)|refine svb (fun b=>?_)|fail))
    exact fin_r (h' := _) ⟨rfl, rfl⟩
  · refine ACalls.intro Tryz.func51 rfl Tryz.ntmps51 Tryz.results51 (Nat.le_of_ble_eq_true rfl) ?_
    (repeat' (first|refine svz ⟨fun b hq=>?_⟩|refine svA ⟨?_⟩|refine svu ⟨fun u=>?_⟩|(refine svG (fun hc=>?_) (fun hc=>?_)<;>try exact svx)|refine svh (fun hb=>?_) (fun hb=>?_)|refine svb (fun b=>?_)|fail))
    refine S.call ?_; refine (c1 _).mono ?_; rintro r h' ⟨rfl, hh⟩; subst hh
    (repeat' (first|refine svz ⟨fun b hq=>?_⟩|refine svA ⟨?_⟩|refine svu ⟨fun u=>?_⟩|(refine svG (fun hc=>?_) (fun hc=>?_)<;>try exact svx)|refine svh (fun hb=>?_) (fun hb=>?_)|refine svb (fun b=>?_)|fail))
    exact fin_r (h' := _) ⟨rfl, rfl⟩
set_option maxRecDepth 100000 in
theorem clnI_c0 (l : List Int) (h : Heap) (hl : l.length ≤ 1000000000000) : ACalls Tryz.prog 50 [.ro 1 (ints .u32 (l))] h (fun r h' => (r = .val (.slice none 0 0) ∧ l = [] ∧ h' = h) ∨ ∃ v, r = .val v ∧ h' = .own v 1 (ints .u32 l) 57 :: h) := by
  refine ACalls.intro Tryz.func50 rfl Tryz.ntmps50 Tryz.results50 (Nat.le_of_ble_eq_true rfl) ?_
  (repeat' (first|refine svz ⟨fun b hq=>?_⟩|refine svA ⟨?_⟩|refine svu ⟨fun u=>?_⟩|(refine svG (fun hc=>?_) (fun hc=>?_)<;>try exact svx)|refine svh (fun hb=>?_) (fun hb=>?_)|refine svb (fun b=>?_)|fail))
  · have : l = [] := by simpa [ints] using hq (by assumption)
    exact fin_r (h' := h) (.inl ⟨rfl, this, rfl⟩)
  · exact fin_r (h' := .own u 1 (ints .u32 l) 57 :: h) (.inr ⟨u, rfl, rfl⟩)
theorem clnI_c (l : List Int) (h : Heap) (hl : l.length ≤ 1000000000000) : ACalls Tryz.prog 50 [.ro 1 (ints .u32 (l))] h (fun r h' => r = .ro 1 (ints .u32 (l)) ∧ h' = h) := by
  refine ((clnI_c0 l h hl).wk (Q' := fun r h' => (r = .ro 1 (ints .u32 (l)) ∧ h' = h) ∨ ∃ v, r = .val v ∧ h' = .own v 1 (ints .u32 l) 57 :: h) ?_).frzo ?_
  · rintro r h' (⟨rfl, rfl, rfl⟩ | ⟨v, rfl, rfl⟩)
    · exact ⟨_, .nilr 1, .inl ⟨rfl, rfl⟩⟩
    · exact ⟨_, .refl _, .inr ⟨v, rfl, rfl⟩⟩
  · rintro r h' (⟨rfl, rfl⟩ | ⟨v, rfl, rfl⟩)
    · exact .inl ⟨rfl, rfl⟩
    · exact .inr ⟨v, 1, _, _, _, h, .here, .hit, rfl, rfl⟩
end Go.Proofs.YtfbegifmhgkpjaaGreat

namespace Go.Proofs
open Go Go.VM
set_option maxRecDepth 100000
instance : TMap Tryz.prog 25 57 40 .u32 := ⟨by kernel_rfl, by kernel_rfl⟩
instance : TMap Tryz.prog 26 57 57 .u32 := ⟨by kernel_rfl, by kernel_rfl⟩
instance : TMap Tryz.prog 29 57 64 .u32 := ⟨by kernel_rfl, by kernel_rfl⟩
instance : TMap Tryz.prog 32 57 118 .u32 := ⟨by kernel_rfl, by kernel_rfl⟩
instance : TMap Tryz.prog 41 57 114 .u32 := ⟨by kernel_rfl, by kernel_rfl⟩
instance : TMap Tryz.prog 59 57 50 .u32 := ⟨by kernel_rfl, by kernel_rfl⟩
instance : TMap Tryz.prog 116 57 120 .u32 := ⟨by kernel_rfl, by kernel_rfl⟩
end Go.Proofs

/- A slice of some elements, built and never changed. No condition. -/
namespace Go.VM
open Go
set_option linter.unusedVariables false
set_option linter.unusedSimpArgs false
section
variable {ro : Option Nat} {P : Program} {n : Nat} {t : List (Nat × AV)} {h : Heap} {K : St → Prop} {x : Operand} {d : Nat} {ty : Nat} {pos : String} {af : Array Edge} {gd : Option (Nat × Bool)}
variable {ops : Array Oper} {hro : Heap} {todo : List Nat} {i : Nat}
end
end Go.VM

/- A call of yield in a region that draws its order. No condition. -/
namespace Go.VM
open Go
set_option linter.unusedVariables false
set_option linter.unusedSimpArgs false
section
variable {ro : Option Nat} {P : Program} {ops : Array Oper} {K : St → Prop} {n : Nat} {hro : Heap} {todo todo' : List Nat} {t : List (Nat × AV)} {h : Heap} {oi : Oper} {i d : Nat} {v : AV}
end
end Go.VM
namespace Go.VM
open Go
section
variable {P : Program} {tm : List (Nat × AV)} {h : Heap} {d : Option Nat} {x y : Operand} {ty : TypeId} {pos : String} {af : Array Edge} {gd : Option (Nat × Bool)}
end
end Go.VM

/- A piece of an immutable slice, cut with its capacity. No condition. -/
namespace Go.VM
open Go
set_option linter.unusedVariables false
set_option linter.unusedSimpArgs false
section
variable {P : Program} {t : List (Nat × AV)} {h : Heap} {d : Option Nat} {x x1 x2 x3 : Operand} {ty : TypeId} {pos : String} {af : Array Edge} {gd : Option (Nat × Bool)}
end
end Go.VM

/- A call that is lent an owned slice: what it does with the slice as with one that cannot change, it does with an owned one too, when a plain value comes back. No condition. -/
namespace Go.VM
open Go
set_option linter.unusedVariables false
set_option linter.unusedSimpArgs false
end Go.VM

/- Strings: of bytes, and one behind the other. No condition. -/
namespace Go.VM
open Go
set_option linter.unusedVariables false
set_option linter.unusedSimpArgs false
class TBytes (P : Program) (t e : Nat) : Prop where
  h : P.underlying t = some (.slice e)
  he : P.underlying e = some (.int .u8)
section
variable {P : Program} {tm : List (Nat × AV)} {h : Heap} {d : Option Nat} {x y : Operand} {ty : TypeId} {pos : String} {af : Array Edge} {gd : Option (Nat × Bool)}
end
end Go.VM
