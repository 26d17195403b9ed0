import Derived.Test.YtbknacpdcdkjiaaGreatF18
/- What a run leaves. No condition. -/
namespace Go.Proofs.YtbknacpdcdkjiaaGreat
open Go Go.VM
attribute [local irreducible] PurV Pur Step RL W D ACalls Then InBlock Fini
set_option linter.unusedVariables false
set_option linter.unusedSimpArgs false
set_option maxHeartbeats 20000000
set_option maxRecDepth 100000 in
theorem done_c (b0 : Nat) (v : Value) (s : RT) (L : List SD) (H : Heap) : ACalls Tryz.prog 42 [.val (.pointer (some ⟨b0, 0, none⟩))] (runH b0 v s L H) (fun r h' => r = .tup [s.enc, .val v] ∧ h' = runH b0 v s L H) := by
  unfold runH runC RT.enc
  refine ACalls.intro Tryz.func42 rfl Tryz.ntmps42 Tryz.results42 (Nat.le_of_ble_eq_true rfl) ?_
  (repeat' (first|refine svz ⟨fun b hq=>?_⟩|refine svA ⟨?_⟩|refine svu ⟨fun u=>?_⟩|(refine svG (fun hg=>?_) (fun hg=>?_)<;>try exact svx)|refine svh (fun hb=>?_) (fun hb=>?_)|refine svb (fun b=>?_)|fail))
  refine W.dr (.rw (.ro (.done _))) ?_
  (repeat' (first|refine svz ⟨fun b hq=>?_⟩|refine svA ⟨?_⟩|refine svu ⟨fun u=>?_⟩|(refine svG (fun hg=>?_) (fun hg=>?_)<;>try exact svx)|refine svh (fun hb=>?_) (fun hb=>?_)|refine svb (fun b=>?_)|fail))
  refine fin_r (h' := .box b0 (runC s (.val v)) 135 :: .own v 7 (L.map SD.enc) 66 :: H) (Q := fun r h' => r = .tup [s.enc, .val v] ∧ h' = .box b0 (runC s (.val v)) 135 :: .own v 7 (L.map SD.enc) 66 :: H) ?_
  exact ⟨rfl, rfl⟩
end Go.Proofs.YtbknacpdcdkjiaaGreat

/- What a device does. No condition. -/
namespace Go.Proofs.YtbknacpdcdkjiaaGreat
open Go Go.VM
attribute [local irreducible] PurV Pur Step RL W D ACalls Then InBlock Fini
set_option linter.unusedVariables false
set_option linter.unusedSimpArgs false
set_option maxHeartbeats 20000000
def IN.num (i : IN) (n : Int) : IN := ⟨i.k, i.c, i.x, i.y, i.t, n⟩
def RT.cn (s : RT) (ct nw : Int) : RT := { s with ct := ct, nw := nw }
def fedF (s : RT) (p : Bool) (i : IN) : RT := (s.setd p ((s.dv p).wait ((s.dv p).ws ++ [i.num (s.ct + 1)]))).cn (s.ct + 1) (max s.nw i.t)
set_option maxRecDepth 100000 in
theorem step1_c0 (Inv : RT → List SD → Prop) (hb : ∀ s L, Inv s L → s.p.ws.length ≤ 1000000 ∧ s.q.ws.length ≤ 1000000)
    (hs : ∀ s L p n i, Inv s L → pickF s = some (p, n, i) → TakC 96 (s.setd p (hldF (s.dv p) n i)) i [] L (fun s' l => Inv s' (L ++ l) ∧ s'.wts < s.wts))
    (s : RT) (i : IN) (h : Heap) (hk : i.k = 1) (hc : 1 ≤ i.c ∧ i.c < 248) (ht : 0 ≤ i.t ∧ i.t < 2147483648) (hnw : 0 ≤ s.nw ∧ s.nw < 2147483648) (hct : 0 ≤ s.ct ∧ s.ct < 1000000) (hw : s.q.ws.length < 256) (hi : Inv (fedF s false i) []) :
    ACalls Tryz.prog 11 [s.enc, i.enc] h (fun r h' => ∃ v s' L, Inv s' L ∧ pickF s' = none ∧ r = .tup [s'.enc, .val v, AV.val (.int .i64 (0))] ∧ h' = .own v 7 (L.map SD.enc) 66 :: h) := by
  have kc := fun h => kind_c i.k h (by omega)
  rw [show kdF i.k = ⟨false, 1, true, false, 77⟩ by rw [hk]; rfl] at kc
  have cok := fun h => codeok_c ⟨false, 1, true, false, 77⟩ i.c h
  rw [show witF ⟨false, 1, true, false, 77⟩ i.c = true by unfold witF; simp; omega] at cok
  have dc := fun b h => device_c b false h
  have fd := fun h => feed_c s.q (i.num (s.ct + 1)) h hw
  have al := fun b0 v H => all_c Inv hb hs b0 v (fedF s false i) [] H hi
  have dn := fun b0 v s L H => done_c b0 v s L H
  clear hb hs hi
  unfold RT.enc runH runC KD.enc DV.enc fedF RT.cn RT.setd RT.dv DV.wait at *
  rw [IN.enc_eq] at *
  refine ACalls.intro Tryz.func11 rfl Tryz.ntmps11 Tryz.results11 (Nat.le_of_ble_eq_true rfl) ?_
  refine W.nil_ 7 66 ?_
  (repeat' (first|refine svz ⟨fun b hq=>?_⟩|refine svA ⟨?_⟩|refine svu ⟨fun u=>?_⟩|(refine svG (fun hg=>?_) (fun hg=>?_)<;>try exact svx)|refine svh (fun hb=>?_) (fun hb=>?_)|refine svb (fun b=>?_)|fail))
  refine S.call ?_; refine (kc _).mono ?_; rintro r h' ⟨rfl, hh⟩; subst hh
  (repeat' (first|refine svz ⟨fun b hq=>?_⟩|refine svA ⟨?_⟩|refine svu ⟨fun u=>?_⟩|(refine svG (fun hg=>?_) (fun hg=>?_)<;>try exact svx)|refine svh (fun hb=>?_) (fun hb=>?_)|refine svb (fun b=>?_)|fail))
  refine S.call ?_; refine (cok _).mono ?_; rintro r h' ⟨rfl, hh⟩; subst hh
  (repeat' (first|refine svz ⟨fun b hq=>?_⟩|refine svA ⟨?_⟩|refine svu ⟨fun u=>?_⟩|(refine svG (fun hg=>?_) (fun hg=>?_)<;>try exact svx)|refine svh (fun hb=>?_) (fun hb=>?_)|refine svb (fun b=>?_)|fail))
  refine S.call ?_; refine (dc _ _).mono ?_; rintro r h' ⟨rfl, hh⟩; subst hh
  (repeat' (first|refine svz ⟨fun b hq=>?_⟩|refine svA ⟨?_⟩|refine svu ⟨fun u=>?_⟩|(refine svG (fun hg=>?_) (fun hg=>?_)<;>try exact svx)|refine svh (fun hb=>?_) (fun hb=>?_)|refine svb (fun b=>?_)|fail))
  refine R2.C (fd _) ?_
  (repeat' (first|refine svz ⟨fun b hq=>?_⟩|refine svA ⟨?_⟩|refine svu ⟨fun u=>?_⟩|(refine svG (fun hg=>?_) (fun hg=>?_)<;>try exact svx)|refine svh (fun hb=>?_) (fun hb=>?_)|refine svb (fun b=>?_)|fail))
  refine S.store_any ?_ (hl := Nat.le_of_ble_eq_true rfl)
  (repeat' (first|refine svz ⟨fun b hq=>?_⟩|refine svA ⟨?_⟩|refine svu ⟨fun u=>?_⟩|(refine svG (fun hg=>?_) (fun hg=>?_)<;>try exact svx)|refine svh (fun hb=>?_) (fun hb=>?_)|refine svb (fun b=>?_)|fail))
  rename_i b2 b3 b4 b7 b9
  refine Step.le (s' := ⟨108, [(9, .val (.pointer (some ⟨b9, 0, none⟩))), (4, .val (.pointer (some ⟨b4, 0, none⟩)))], .box b9 (runC (fedF s false i) (.val (.slice none 0 0))) 135 :: .own (.slice none 0 0) 7 (([] : List SD).map SD.enc) 66 :: .box b4 _ 52 :: h⟩) lee ?_
  refine S.call ?_
  refine (al _ _ _).mono ?_
  rintro r h' ⟨v1, s1, L1, hI, hn, rfl, hh⟩
  subst hh
  (repeat' (first|refine svz ⟨fun b hq=>?_⟩|refine svA ⟨?_⟩|refine svu ⟨fun u=>?_⟩|(refine svG (fun hg=>?_) (fun hg=>?_)<;>try exact svx)|refine svh (fun hb=>?_) (fun hb=>?_)|refine svb (fun b=>?_)|fail))
  refine S.call ?_; refine (dn _ _ _ _ _).mono ?_; rintro r h' ⟨rfl, hh⟩; subst hh
  (repeat' (first|refine svz ⟨fun b hq=>?_⟩|refine svA ⟨?_⟩|refine svu ⟨fun u=>?_⟩|(refine svG (fun hg=>?_) (fun hg=>?_)<;>try exact svx)|refine svh (fun hb=>?_) (fun hb=>?_)|refine svb (fun b=>?_)|fail))
  exact fin_r (h' := .own v1 7 (L1.map SD.enc) 66 :: h) ⟨v1, s1, L1, hI, hn, rfl, rfl⟩
theorem step1_c (Inv : RT → List SD → Prop) (hb : ∀ s L, Inv s L → s.p.ws.length ≤ 1000000 ∧ s.q.ws.length ≤ 1000000)
    (hs : ∀ s L p n i, Inv s L → pickF s = some (p, n, i) → TakC 96 (s.setd p (hldF (s.dv p) n i)) i [] L (fun s' l => Inv s' (L ++ l) ∧ s'.wts < s.wts))
    (s : RT) (i : IN) (h : Heap) (hk : i.k = 1) (hc : 1 ≤ i.c ∧ i.c < 248) (ht : 0 ≤ i.t ∧ i.t < 2147483648) (hnw : 0 ≤ s.nw ∧ s.nw < 2147483648) (hct : 0 ≤ s.ct ∧ s.ct < 1000000) (hw : s.q.ws.length < 256) (hi : Inv (fedF s false i) []) :
    ACalls Tryz.prog 11 [s.enc, i.enc] h (fun r h' => (∃ s' L, Inv s' L ∧ pickF s' = none ∧ r = .tup [s'.enc, .ro 7 (L.map SD.enc), AV.val (.int .i64 (0))]) ∧ h' = h) := by
  refine (step1_c0 Inv hb hs s i h hk hc ht hnw hct hw hi).frzo ?_
  rintro r h' ⟨v, s', L, hI, hn, rfl, rfl⟩
  exact .inr ⟨v, 7, _, _, _, h, .here, .tupc (.keep _) (.tupc .hit (.keep _)), ⟨s', L, hI, hn, rfl⟩, rfl⟩
end Go.Proofs.YtbknacpdcdkjiaaGreat
