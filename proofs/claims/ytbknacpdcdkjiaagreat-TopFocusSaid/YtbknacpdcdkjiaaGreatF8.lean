/- Kinds of inputs; the device; places in events. No condition. -/
import Derived.Test.YtbknacpdcdkjiaaGreatF7
import Derived.Test.YtbknacpdcdkjiaaGreatF6
import Derived.Test.YtbknacpdcdkjiaaGreatVM45
import Derived.Test.YtbknacpdcdkjiaaGreatF3
namespace Go.Proofs.YtbknacpdcdkjiaaGreat
open Go Go.VM
attribute [local irreducible] PurV Pur Step RL W D ACalls Then InBlock Fini
set_option linter.unusedVariables false
set_option linter.unusedSimpArgs false
set_option maxHeartbeats 20000000
set_option maxRecDepth 100000 in
theorem device_c (b : Nat) (p : Bool) (h : Heap) : ACalls Tryz.prog 39 [.val (.pointer (some ⟨b, 0, none⟩)), .val (.bool (p))] h (fun r h' => r = .val (.pointer (some ⟨b, (if p then 10 else 29), none⟩)) ∧ h' = h) := by
  cases p
  all_goals
    refine ACalls.intro Tryz.func39 rfl Tryz.ntmps39 Tryz.results39 (Nat.le_of_ble_eq_true rfl) ?_
    (repeat' (first|refine svz ⟨fun b hq=>?_⟩|refine svA ⟨?_⟩|refine svu ⟨fun u=>?_⟩|(refine svG (fun hg=>?_) (fun hg=>?_)<;>try exact svx)|refine svh (fun hb=>?_) (fun hb=>?_)|refine svb (fun b=>?_)|fail))
    refine fin_r (h' := h) (Q := fun r h' => r = _ ∧ h' = h) ?_; exact ⟨rfl, rfl⟩
structure KD where
  (p : Bool) (m : Int) (pr rl : Bool) (fn : Nat)
def KD.enc (k : KD) : AV := .agg [.val (.bool (k.p)), .val (.int .i64 (k.m)), .val (.bool (k.pr)), .val (.bool (k.rl)), .val (.func (.func k.fn) #[] #[])]
def kdF (k : Int) : KD := if k = 1 then ⟨false, 1, true, false, 77⟩ else if k = 2 then ⟨false, 2, false, true, 78⟩ else if k = 3 then ⟨true, 4, true, false, 77⟩ else if k = 4 then ⟨true, 8, false, true, 78⟩ else ⟨true, 16, false, false, 79⟩
set_option maxRecDepth 100000 in
theorem kind_c (k : Int) (h : Heap) (hk : 1 ≤ k ∧ k ≤ 5) : ACalls Tryz.prog 36 [.val (.int .i64 (k))] h (fun r h' => r = .tup [(kdF k).enc, .val (.bool (true))] ∧ h' = h) := by
  unfold KD.enc
  obtain rfl | rfl | rfl | rfl | rfl : k = 1 ∨ k = 2 ∨ k = 3 ∨ k = 4 ∨ k = 5 := by omega
  · refine ACalls.intro Tryz.func36 rfl Tryz.ntmps36 Tryz.results36 (Nat.le_of_ble_eq_true rfl) ?_; (repeat' (first|refine svz ⟨fun b hq=>?_⟩|refine svA ⟨?_⟩|refine svu ⟨fun u=>?_⟩|(refine svG (fun hg=>?_) (fun hg=>?_)<;>try exact svx)|refine svh (fun hb=>?_) (fun hb=>?_)|refine svb (fun b=>?_)|fail)); refine step_v (pur_buildark (by repeat (first | exact EvalP.nil | (apply EvalP.cons; rfl))) rfl) rfl ?_; (repeat' (first|refine svz ⟨fun b hq=>?_⟩|refine svA ⟨?_⟩|refine svu ⟨fun u=>?_⟩|(refine svG (fun hg=>?_) (fun hg=>?_)<;>try exact svx)|refine svh (fun hb=>?_) (fun hb=>?_)|refine svb (fun b=>?_)|fail)); refine S.Ar (j := 1) ?_; (repeat' (first|refine svz ⟨fun b hq=>?_⟩|refine svA ⟨?_⟩|refine svu ⟨fun u=>?_⟩|(refine svG (fun hg=>?_) (fun hg=>?_)<;>try exact svx)|refine svh (fun hb=>?_) (fun hb=>?_)|refine svb (fun b=>?_)|fail)); refine fin_r (h' := h) (Q := fun r h' => r = _ ∧ h' = h) ?_; exact ⟨rfl, rfl⟩
  · refine ACalls.intro Tryz.func36 rfl Tryz.ntmps36 Tryz.results36 (Nat.le_of_ble_eq_true rfl) ?_; (repeat' (first|refine svz ⟨fun b hq=>?_⟩|refine svA ⟨?_⟩|refine svu ⟨fun u=>?_⟩|(refine svG (fun hg=>?_) (fun hg=>?_)<;>try exact svx)|refine svh (fun hb=>?_) (fun hb=>?_)|refine svb (fun b=>?_)|fail)); refine step_v (pur_buildark (by repeat (first | exact EvalP.nil | (apply EvalP.cons; rfl))) rfl) rfl ?_; (repeat' (first|refine svz ⟨fun b hq=>?_⟩|refine svA ⟨?_⟩|refine svu ⟨fun u=>?_⟩|(refine svG (fun hg=>?_) (fun hg=>?_)<;>try exact svx)|refine svh (fun hb=>?_) (fun hb=>?_)|refine svb (fun b=>?_)|fail)); refine S.Ar (j := 2) ?_; (repeat' (first|refine svz ⟨fun b hq=>?_⟩|refine svA ⟨?_⟩|refine svu ⟨fun u=>?_⟩|(refine svG (fun hg=>?_) (fun hg=>?_)<;>try exact svx)|refine svh (fun hb=>?_) (fun hb=>?_)|refine svb (fun b=>?_)|fail)); refine fin_r (h' := h) (Q := fun r h' => r = _ ∧ h' = h) ?_; exact ⟨rfl, rfl⟩
  · refine ACalls.intro Tryz.func36 rfl Tryz.ntmps36 Tryz.results36 (Nat.le_of_ble_eq_true rfl) ?_; (repeat' (first|refine svz ⟨fun b hq=>?_⟩|refine svA ⟨?_⟩|refine svu ⟨fun u=>?_⟩|(refine svG (fun hg=>?_) (fun hg=>?_)<;>try exact svx)|refine svh (fun hb=>?_) (fun hb=>?_)|refine svb (fun b=>?_)|fail)); refine step_v (pur_buildark (by repeat (first | exact EvalP.nil | (apply EvalP.cons; rfl))) rfl) rfl ?_; (repeat' (first|refine svz ⟨fun b hq=>?_⟩|refine svA ⟨?_⟩|refine svu ⟨fun u=>?_⟩|(refine svG (fun hg=>?_) (fun hg=>?_)<;>try exact svx)|refine svh (fun hb=>?_) (fun hb=>?_)|refine svb (fun b=>?_)|fail)); refine S.Ar (j := 3) ?_; (repeat' (first|refine svz ⟨fun b hq=>?_⟩|refine svA ⟨?_⟩|refine svu ⟨fun u=>?_⟩|(refine svG (fun hg=>?_) (fun hg=>?_)<;>try exact svx)|refine svh (fun hb=>?_) (fun hb=>?_)|refine svb (fun b=>?_)|fail)); refine fin_r (h' := h) (Q := fun r h' => r = _ ∧ h' = h) ?_; exact ⟨rfl, rfl⟩
  · refine ACalls.intro Tryz.func36 rfl Tryz.ntmps36 Tryz.results36 (Nat.le_of_ble_eq_true rfl) ?_; (repeat' (first|refine svz ⟨fun b hq=>?_⟩|refine svA ⟨?_⟩|refine svu ⟨fun u=>?_⟩|(refine svG (fun hg=>?_) (fun hg=>?_)<;>try exact svx)|refine svh (fun hb=>?_) (fun hb=>?_)|refine svb (fun b=>?_)|fail)); refine step_v (pur_buildark (by repeat (first | exact EvalP.nil | (apply EvalP.cons; rfl))) rfl) rfl ?_; (repeat' (first|refine svz ⟨fun b hq=>?_⟩|refine svA ⟨?_⟩|refine svu ⟨fun u=>?_⟩|(refine svG (fun hg=>?_) (fun hg=>?_)<;>try exact svx)|refine svh (fun hb=>?_) (fun hb=>?_)|refine svb (fun b=>?_)|fail)); refine S.Ar (j := 4) ?_; (repeat' (first|refine svz ⟨fun b hq=>?_⟩|refine svA ⟨?_⟩|refine svu ⟨fun u=>?_⟩|(refine svG (fun hg=>?_) (fun hg=>?_)<;>try exact svx)|refine svh (fun hb=>?_) (fun hb=>?_)|refine svb (fun b=>?_)|fail)); refine fin_r (h' := h) (Q := fun r h' => r = _ ∧ h' = h) ?_; exact ⟨rfl, rfl⟩
  · refine ACalls.intro Tryz.func36 rfl Tryz.ntmps36 Tryz.results36 (Nat.le_of_ble_eq_true rfl) ?_; (repeat' (first|refine svz ⟨fun b hq=>?_⟩|refine svA ⟨?_⟩|refine svu ⟨fun u=>?_⟩|(refine svG (fun hg=>?_) (fun hg=>?_)<;>try exact svx)|refine svh (fun hb=>?_) (fun hb=>?_)|refine svb (fun b=>?_)|fail)); refine step_v (pur_buildark (by repeat (first | exact EvalP.nil | (apply EvalP.cons; rfl))) rfl) rfl ?_; (repeat' (first|refine svz ⟨fun b hq=>?_⟩|refine svA ⟨?_⟩|refine svu ⟨fun u=>?_⟩|(refine svG (fun hg=>?_) (fun hg=>?_)<;>try exact svx)|refine svh (fun hb=>?_) (fun hb=>?_)|refine svb (fun b=>?_)|fail)); refine S.Ar (j := 5) ?_; (repeat' (first|refine svz ⟨fun b hq=>?_⟩|refine svA ⟨?_⟩|refine svu ⟨fun u=>?_⟩|(refine svG (fun hg=>?_) (fun hg=>?_)<;>try exact svx)|refine svh (fun hb=>?_) (fun hb=>?_)|refine svb (fun b=>?_)|fail)); refine fin_r (h' := h) (Q := fun r h' => r = _ ∧ h' = h) ?_; exact ⟨rfl, rfl⟩
def lessF (a o : Int) : Int := min (max (min (max a (-1099511627776)) 1099511627776 - o) (-32768)) 32767
set_option maxRecDepth 100000 in
theorem less_c (a o : Int) (h : Heap) (ho : -1000000 ≤ o ∧ o ≤ 1000000) : ACalls Tryz.prog 89 [.val (.int .i64 (a)), .val (.int .i64 (o))] h (fun r h' => r = .val (.int .i64 (lessF a o)) ∧ h' = h) := by
  refine ACalls.intro Tryz.func89 rfl Tryz.ntmps89 Tryz.results89 (Nat.le_of_ble_eq_true rfl) ?_
  (repeat' (first|refine svz ⟨fun b hq=>?_⟩|refine svA ⟨?_⟩|refine svu ⟨fun u=>?_⟩|(refine svG (fun hg=>?_) (fun hg=>?_)<;>try exact svx)|refine svh (fun hb=>?_) (fun hb=>?_)|refine svb (fun b=>?_)|fail))
  refine fin_r (h' := h) (Q := fun r h' => r = _ ∧ h' = h) ?_; exact ⟨rfl, rfl⟩
def witF (k : KD) (c : Int) : Bool := if !k.pr && !k.rl then decide (c = 0) else if k.p then decide (1 ≤ c ∧ c ≤ 5) else decide (1 ≤ c ∧ c ≤ 255)
set_option maxRecDepth 100000 in
theorem codeok_c (k : KD) (c : Int) (h : Heap) : ACalls Tryz.prog 37 [k.enc, .val (.int .i64 (c))] h (fun r h' => r = .val (.bool (witF k c)) ∧ h' = h) := by
  obtain ⟨p, m, pr, rl, fn⟩ := k
  unfold KD.enc witF
  dsimp only
  cases p <;> cases pr <;> cases rl
  all_goals
    refine ACalls.intro Tryz.func37 rfl Tryz.ntmps37 Tryz.results37 (Nat.le_of_ble_eq_true rfl) ?_
    (repeat' (first|refine svz ⟨fun b hq=>?_⟩|refine svA ⟨?_⟩|refine svu ⟨fun u=>?_⟩|(refine svG (fun hg=>?_) (fun hg=>?_)<;>try exact svx)|refine svh (fun hb=>?_) (fun hb=>?_)|refine svb (fun b=>?_)|fail))
    all_goals refine fin_r (h' := h) (Q := fun r h' => r = _ ∧ h' = h) ⟨?_, rfl⟩
    all_goals first | rfl | (refine congrArg (fun q => AV.val (.bool q)) ?_; simp; done) | (refine congrArg (fun q => AV.val (.bool q)) ?_; simp; omega)
end Go.Proofs.YtbknacpdcdkjiaaGreat
