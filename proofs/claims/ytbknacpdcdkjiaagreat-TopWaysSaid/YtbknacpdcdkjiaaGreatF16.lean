import Derived.Test.YtbknacpdcdkjiaaGreatF11
/- Buttons and keys that are down. No condition. -/
namespace Go.Proofs.YtbknacpdcdkjiaaGreat
open Go Go.VM
attribute [local irreducible] PurV Pur Step RL W D ACalls Then InBlock Fini
set_option linter.unusedVariables false
set_option linter.unusedSimpArgs false
set_option maxHeartbeats 20000000
end Go.Proofs.YtbknacpdcdkjiaaGreat

/- No grabs lie ready. No condition. -/
namespace Go.Proofs.YtbknacpdcdkjiaaGreat
open Go Go.VM
attribute [local irreducible] PurV Pur Step RL W D ACalls Then InBlock Fini
set_option linter.unusedVariables false
set_option linter.unusedSimpArgs false
set_option maxHeartbeats 20000000
end Go.Proofs.YtbknacpdcdkjiaaGreat

/- The windows whose grabs a press may activate: none lies ready, so whichever. No condition. -/
namespace Go.Proofs.YtbknacpdcdkjiaaGreat
open Go Go.VM
attribute [local irreducible] PurV Pur Step RL W D ACalls Then InBlock Fini
set_option linter.unusedVariables false
set_option linter.unusedSimpArgs false
set_option maxHeartbeats 20000000
end Go.Proofs.YtbknacpdcdkjiaaGreat

/- A press of a key. No condition. -/
namespace Go.Proofs.YtbknacpdcdkjiaaGreat
open Go Go.VM
attribute [local irreducible] PurV Pur Step RL W D ACalls Then InBlock Fini
set_option linter.unusedVariables false
set_option linter.unusedSimpArgs false
set_option maxHeartbeats 20000000
def stF (s : RT) : Int := IntKind.wrap .i64 (s.md + IntKind.wrap .i64 (256 * s.bt))
set_option maxRecDepth 100000 in
theorem state_c (s : RT) (h : Heap) : ACalls Tryz.prog 90 [s.enc] h (fun r h' => r = AV.val (.int .i64 (stF s)) ∧ h' = h) := by
  unfold RT.enc stF
  refine ACalls.intro Tryz.func90 rfl Tryz.ntmps90 Tryz.results90 (Nat.le_of_ble_eq_true rfl) ?_
  (repeat' (first|refine svz ⟨fun b hq=>?_⟩|refine svA ⟨?_⟩|refine svu ⟨fun u=>?_⟩|(refine svG (fun hg=>?_) (fun hg=>?_)<;>try exact svx)|refine svh (fun hb=>?_) (fun hb=>?_)|refine svb (fun b=>?_)|fail))
  refine fin_r (h' := h) (Q := fun r h' => r = _ ∧ h' = h) ?_; exact ⟨rfl, rfl⟩
end Go.Proofs.YtbknacpdcdkjiaaGreat

/- An input is taken. No condition. -/
namespace Go.Proofs.YtbknacpdcdkjiaaGreat
open Go Go.VM
attribute [local irreducible] PurV Pur Step RL W D ACalls Then InBlock Fini
set_option linter.unusedVariables false
set_option linter.unusedSimpArgs false
set_option maxHeartbeats 20000000
def runH (b0 : Nat) (v : Value) (s : RT) (L : List SD) (H : Heap) : Heap := .box b0 (runC s (.val v)) 135 :: .own v 7 (L.map SD.enc) 66 :: H
def RunTo (b0 : Nat) (R : RT → List SD → Prop) (L : List SD) (H : Heap) (r : AV) (h' : Heap) : Prop := ∃ v' s' l, R s' l ∧ r = .tup [] ∧ h' = runH b0 v' s' (L ++ l) H
def TakC (f : FuncId) (s : RT) (i : IN) (Wo : List Int) (L : List SD) (R : RT → List SD → Prop) : Prop := ∀ b0 v H, ACalls Tryz.prog f [.val (.pointer (some ⟨b0, 0, none⟩)), i.enc, AV.ro 1 (ints .u32 (Wo))] (runH b0 v s L H) (RunTo b0 R L H)
instance tf_pr : TFun Tryz.prog (kdF 1).fn := ⟨by kernel_rfl⟩
instance tf_rl : TFun Tryz.prog (kdF 2).fn := ⟨by kernel_rfl⟩
instance tf_mo : TFun Tryz.prog (kdF 5).fn := ⟨by kernel_rfl⟩
set_option maxRecDepth 100000 in
theorem take_c {s : RT} {i : IN} {Wo : List Int} {L : List SD} {R : RT → List SD → Prop} (hk : 1 ≤ i.k ∧ i.k ≤ 5) (hc : TakC (kdF i.k).fn s i Wo L R) : TakC 96 s i Wo L R := by
  intro b0 v H
  have hf : TFun Tryz.prog (kdF i.k).fn := by
    obtain e | e | e | e | e : i.k = 1 ∨ i.k = 2 ∨ i.k = 3 ∨ i.k = 4 ∨ i.k = 5 := by omega
    all_goals rw [e]; first | exact tf_pr | exact tf_rl | exact tf_mo
  have kc := fun h => kind_c i.k h hk
  have hc1 := hc b0 v
  unfold runH at hc1 ⊢
  generalize OE.box b0 (runC s (.val v)) 135 = X at *
  generalize OE.own v 7 (L.map SD.enc) 66 = Y at *
  generalize kdF i.k = kd at *
  unfold KD.enc at *
  rw [IN.enc_eq i] at *
  refine ACalls.intro Tryz.func96 rfl Tryz.ntmps96 Tryz.results96 (Nat.le_of_ble_eq_true rfl) ?_
  (repeat' (first|refine svz ⟨fun b hq=>?_⟩|refine svA ⟨?_⟩|refine svu ⟨fun u=>?_⟩|(refine svG (fun hg=>?_) (fun hg=>?_)<;>try exact svx)|refine svh (fun hb=>?_) (fun hb=>?_)|refine svb (fun b=>?_)|fail))
  refine S.call ?_; refine (kc _).mono ?_; rintro r h' ⟨rfl, hh⟩; subst hh
  (repeat' (first|refine svz ⟨fun b hq=>?_⟩|refine svA ⟨?_⟩|refine svu ⟨fun u=>?_⟩|(refine svG (fun hg=>?_) (fun hg=>?_)<;>try exact svx)|refine svh (fun hb=>?_) (fun hb=>?_)|refine svb (fun b=>?_)|fail))
  rename_i b4
  revert b; intro b6
  refine Step.le (s' := ⟨21, [(16, .val (.func (.func kd.fn) #[] #[])), (17, .val (.pointer (some ⟨b0, 0, none⟩))), (18, .agg [AV.val (.int .i64 ((i).k)), AV.val (.int .i64 ((i).c)), AV.val (.int .i64 ((i).x)), AV.val (.int .i64 ((i).y)), AV.val (.int .u32 ((i).t)), AV.val (.int .i64 ((i).n))]), (19, AV.ro 1 (ints .u32 (Wo)))], X :: Y :: .box b6 (AV.agg [AV.val (.bool (kd.p)), AV.val (.int .i64 (kd.m)), AV.val (.bool (kd.pr)), AV.val (.bool (kd.rl)), .val (.func (.func kd.fn) #[] #[])]).cells 130 :: .box b4 (AV.agg [AV.val (.int .i64 ((i).k)), AV.val (.int .i64 ((i).c)), AV.val (.int .i64 ((i).x)), AV.val (.int .i64 ((i).y)), AV.val (.int .u32 ((i).t)), AV.val (.int .i64 ((i).n))]).cells 47 :: H⟩) lee ?_
  refine S.callv (.fn _) ((hc1 _).mono ?_)
  rintro r h' ⟨v', s', l, hR, rfl, hh⟩
  unfold runH at hh
  subst hh
  (repeat' (first|refine svz ⟨fun b hq=>?_⟩|refine svA ⟨?_⟩|refine svu ⟨fun u=>?_⟩|(refine svG (fun hg=>?_) (fun hg=>?_)<;>try exact svx)|refine svh (fun hb=>?_) (fun hb=>?_)|refine svb (fun b=>?_)|fail))
  exact fin_n (vs := []) (h' := .box b0 (runC s' (.val v')) 135 :: .own v' 7 ((L ++ l).map SD.enc) 66 :: H) ⟨v', s', l, hR, rfl, rfl⟩
end Go.Proofs.YtbknacpdcdkjiaaGreat
