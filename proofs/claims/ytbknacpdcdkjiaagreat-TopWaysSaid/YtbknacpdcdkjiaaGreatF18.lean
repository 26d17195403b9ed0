/- All inputs that can be taken. No condition. -/
import Derived.Test.YtbknacpdcdkjiaaGreatF17
namespace Go.Proofs.YtbknacpdcdkjiaaGreat
open Go Go.VM
attribute [local irreducible] PurV Pur Step RL W D ACalls Then InBlock Fini
set_option linter.unusedVariables false
set_option linter.unusedSimpArgs false
set_option maxHeartbeats 20000000
def RT.wts (s : RT) : Nat := s.p.ws.length + s.q.ws.length
def pickF (s : RT) : Option (Bool × DV × IN) := match s.p.next, s.q.next with
  | none, none => none
  | some x, none => some (true, x)
  | none, some y => some (false, y)
  | some x, some y => if x.2.n ≤ y.2.n then some (true, x) else some (false, y)
set_option maxRecDepth 100000 in
theorem all_c (Inv : RT → List SD → Prop) (hb : ∀ s L, Inv s L → s.p.ws.length ≤ 1000000 ∧ s.q.ws.length ≤ 1000000)
    (hs : ∀ s L p n i, Inv s L → pickF s = some (p, n, i) → TakC 96 (s.setd p (hldF (s.dv p) n i)) i [] L (fun s' l => Inv s' (L ++ l) ∧ s'.wts < s.wts))
    (b0 : Nat) (v : Value) (s : RT) (L : List SD) (H : Heap) (hi : Inv s L) :
    ACalls Tryz.prog 41 [.val (.pointer (some ⟨b0, 0, none⟩))] (runH b0 v s L H) (fun r h' => ∃ v' s' L', Inv s' L' ∧ pickF s' = none ∧ r = .tup [] ∧ h' = runH b0 v' s' L' H) := by
  unfold runH
  refine ACalls.intro Tryz.func41 rfl Tryz.ntmps41 Tryz.results41 (Nat.le_of_ble_eq_true rfl) ?_
  (repeat' (first|refine svz ⟨fun b hq=>?_⟩|refine svA ⟨?_⟩|refine svu ⟨fun u=>?_⟩|(refine svG (fun hg=>?_) (fun hg=>?_)<;>try exact svx)|refine svh (fun hb=>?_) (fun hb=>?_)|refine svb (fun b=>?_)|fail))
  refine W.loop (J := fun z : Value × RT × List SD => ⟨48, [(0, .val (.pointer (some ⟨b0, 0, none⟩)))], runH b0 z.1 z.2.1 z.2.2 H⟩) (Φ := fun z => Inv z.2.1 z.2.2) (μ := fun z => z.2.1.wts) (v, s, L) lee hi ?_
  rintro ⟨v1, s1, L1⟩ hi
  dsimp only at hi ⊢
  obtain ⟨hp, hq⟩ := hb s1 L1 hi
  have np := fun h => next_c s1.p h hp
  have nq := fun h => next_c s1.q h hq
  have nr : ∀ p n i, (s1.dv p).next = some (n, i) → pickF s1 = some (p, n, i) → ∀ H, ACalls Tryz.prog 82 [.val (.pointer (some ⟨b0, 0, none⟩)), AV.val (.bool (p))] (runH b0 v1 s1 L1 H) (RunTo b0 (fun s' l => Inv s' (L1 ++ l) ∧ s'.wts < s1.wts) L1 H) :=
    fun p n i h1 h2 H => nextr_c b0 v1 H h1 (by cases p <;> assumption) (hs s1 L1 p n i hi h2)
  unfold pickF at nr
  unfold nextV at np nq
  cases e1 : s1.p.next with
  | none =>
    cases e2 : s1.q.next with
    | none =>
      rw [e1] at np
      rw [e2] at nq
      dsimp only at np nq
      have hn : pickF s1 = none := by unfold pickF; rw [e1, e2]
      unfold runH runC DV.enc at *
      (repeat' (first|refine svz ⟨fun b hq=>?_⟩|refine svA ⟨?_⟩|refine svu ⟨fun u=>?_⟩|(refine svG (fun hg=>?_) (fun hg=>?_)<;>try exact svx)|refine svh (fun hb=>?_) (fun hb=>?_)|refine svb (fun b=>?_)|fail))
      refine S.call ?_; refine (np _).mono ?_; rintro r h' ⟨rfl, hh⟩; subst hh
      (repeat' (first|refine svz ⟨fun b hq=>?_⟩|refine svA ⟨?_⟩|refine svu ⟨fun u=>?_⟩|(refine svG (fun hg=>?_) (fun hg=>?_)<;>try exact svx)|refine svh (fun hb=>?_) (fun hb=>?_)|refine svb (fun b=>?_)|fail))
      refine S.call ?_; refine (nq _).mono ?_; rintro r h' ⟨rfl, hh⟩; subst hh
      (repeat' (first|refine svz ⟨fun b hq=>?_⟩|refine svA ⟨?_⟩|refine svu ⟨fun u=>?_⟩|(refine svG (fun hg=>?_) (fun hg=>?_)<;>try exact svx)|refine svh (fun hb=>?_) (fun hb=>?_)|refine svb (fun b=>?_)|fail))
      exact fin_r (vs := []) (h' := .box b0 (runC s1 (.val v1)) 135 :: .own v1 7 (L1.map SD.enc) 66 :: H) ⟨v1, s1, L1, hi, hn, rfl, rfl⟩
    | some y =>
      obtain ⟨n, i⟩ := y
      rw [e1] at np
      rw [e2] at nq
      dsimp only at np nq
      have nr1 := nr false n i e2 (by rw [e1, e2])
      unfold runH runC DV.enc at *
      (repeat' (first|refine svz ⟨fun b hq=>?_⟩|refine svA ⟨?_⟩|refine svu ⟨fun u=>?_⟩|(refine svG (fun hg=>?_) (fun hg=>?_)<;>try exact svx)|refine svh (fun hb=>?_) (fun hb=>?_)|refine svb (fun b=>?_)|fail))
      refine S.call ?_; refine (np _).mono ?_; rintro r h' ⟨rfl, hh⟩; subst hh
      (repeat' (first|refine svz ⟨fun b hq=>?_⟩|refine svA ⟨?_⟩|refine svu ⟨fun u=>?_⟩|(refine svG (fun hg=>?_) (fun hg=>?_)<;>try exact svx)|refine svh (fun hb=>?_) (fun hb=>?_)|refine svb (fun b=>?_)|fail))
      refine S.call ?_; refine (nq _).mono ?_; rintro r h' ⟨rfl, hh⟩; subst hh
      (repeat' (first|refine svz ⟨fun b hq=>?_⟩|refine svA ⟨?_⟩|refine svu ⟨fun u=>?_⟩|(refine svG (fun hg=>?_) (fun hg=>?_)<;>try exact svx)|refine svh (fun hb=>?_) (fun hb=>?_)|refine svb (fun b=>?_)|fail))
      refine Step.le (s' := ⟨48, [(0, .val (.pointer (some ⟨b0, 0, none⟩))), (34, .val (.pointer (some ⟨b0, 0, none⟩))), (46, AV.val (.bool (false)))], .box b0 (runC s1 (.val v1)) 135 :: .own v1 7 (L1.map SD.enc) 66 :: H⟩) lee ?_; refine S.call ?_; refine (nr1 H).mono ?_; rintro r h' ⟨v2, s2, l2, ⟨hI, hw⟩, rfl, hh⟩; unfold runH at hh; subst hh; (repeat' (first|refine svz ⟨fun b hq=>?_⟩|refine svA ⟨?_⟩|refine svu ⟨fun u=>?_⟩|(refine svG (fun hg=>?_) (fun hg=>?_)<;>try exact svx)|refine svh (fun hb=>?_) (fun hb=>?_)|refine svb (fun b=>?_)|fail)); exact ⟨(v2, s2, L1 ++ l2), hI, lee, hw⟩
  | some x =>
    obtain ⟨n, i⟩ := x
    cases e2 : s1.q.next with
    | none =>
      rw [e1] at np
      rw [e2] at nq
      dsimp only at np nq
      have nr1 := nr true n i e1 (by rw [e1, e2])
      unfold runH runC DV.enc at *
      (repeat' (first|refine svz ⟨fun b hq=>?_⟩|refine svA ⟨?_⟩|refine svu ⟨fun u=>?_⟩|(refine svG (fun hg=>?_) (fun hg=>?_)<;>try exact svx)|refine svh (fun hb=>?_) (fun hb=>?_)|refine svb (fun b=>?_)|fail))
      refine S.call ?_; refine (np _).mono ?_; rintro r h' ⟨rfl, hh⟩; subst hh
      (repeat' (first|refine svz ⟨fun b hq=>?_⟩|refine svA ⟨?_⟩|refine svu ⟨fun u=>?_⟩|(refine svG (fun hg=>?_) (fun hg=>?_)<;>try exact svx)|refine svh (fun hb=>?_) (fun hb=>?_)|refine svb (fun b=>?_)|fail))
      refine S.call ?_; refine (nq _).mono ?_; rintro r h' ⟨rfl, hh⟩; subst hh
      (repeat' (first|refine svz ⟨fun b hq=>?_⟩|refine svA ⟨?_⟩|refine svu ⟨fun u=>?_⟩|(refine svG (fun hg=>?_) (fun hg=>?_)<;>try exact svx)|refine svh (fun hb=>?_) (fun hb=>?_)|refine svb (fun b=>?_)|fail))
      refine Step.le (s' := ⟨48, [(0, .val (.pointer (some ⟨b0, 0, none⟩))), (34, .val (.pointer (some ⟨b0, 0, none⟩))), (46, AV.val (.bool (true)))], .box b0 (runC s1 (.val v1)) 135 :: .own v1 7 (L1.map SD.enc) 66 :: H⟩) lee ?_; refine S.call ?_; refine (nr1 H).mono ?_; rintro r h' ⟨v2, s2, l2, ⟨hI, hw⟩, rfl, hh⟩; unfold runH at hh; subst hh; (repeat' (first|refine svz ⟨fun b hq=>?_⟩|refine svA ⟨?_⟩|refine svu ⟨fun u=>?_⟩|(refine svG (fun hg=>?_) (fun hg=>?_)<;>try exact svx)|refine svh (fun hb=>?_) (fun hb=>?_)|refine svb (fun b=>?_)|fail)); exact ⟨(v2, s2, L1 ++ l2), hI, lee, hw⟩
    | some y =>
      obtain ⟨m, j⟩ := y
      rw [e1] at np
      rw [e2] at nq
      dsimp only at np nq
      by_cases hc : i.n ≤ j.n
      · have nr1 := nr true n i e1 (by rw [e1, e2]; dsimp only; rw [if_pos hc])
        unfold runH runC DV.enc at *
        rw [IN.enc_eq] at np nq
        (repeat' (first|refine svz ⟨fun b hq=>?_⟩|refine svA ⟨?_⟩|refine svu ⟨fun u=>?_⟩|(refine svG (fun hg=>?_) (fun hg=>?_)<;>try exact svx)|refine svh (fun hb=>?_) (fun hb=>?_)|refine svb (fun b=>?_)|fail))
        refine S.call ?_; refine (np _).mono ?_; rintro r h' ⟨rfl, hh⟩; subst hh
        (repeat' (first|refine svz ⟨fun b hq=>?_⟩|refine svA ⟨?_⟩|refine svu ⟨fun u=>?_⟩|(refine svG (fun hg=>?_) (fun hg=>?_)<;>try exact svx)|refine svh (fun hb=>?_) (fun hb=>?_)|refine svb (fun b=>?_)|fail))
        refine S.call ?_; refine (nq _).mono ?_; rintro r h' ⟨rfl, hh⟩; subst hh
        (repeat' (first|refine svz ⟨fun b hq=>?_⟩|refine svA ⟨?_⟩|refine svu ⟨fun u=>?_⟩|(refine svG (fun hg=>?_) (fun hg=>?_)<;>try exact svx)|refine svh (fun hb=>?_) (fun hb=>?_)|refine svb (fun b=>?_)|fail))
        rw [decide_eq_true hc]
        refine Step.le (s' := ⟨48, [(0, .val (.pointer (some ⟨b0, 0, none⟩))), (34, .val (.pointer (some ⟨b0, 0, none⟩))), (46, AV.val (.bool (true)))], .box b0 (runC s1 (.val v1)) 135 :: .own v1 7 (L1.map SD.enc) 66 :: H⟩) lee ?_; refine S.call ?_; refine (nr1 H).mono ?_; rintro r h' ⟨v2, s2, l2, ⟨hI, hw⟩, rfl, hh⟩; unfold runH at hh; subst hh; (repeat' (first|refine svz ⟨fun b hq=>?_⟩|refine svA ⟨?_⟩|refine svu ⟨fun u=>?_⟩|(refine svG (fun hg=>?_) (fun hg=>?_)<;>try exact svx)|refine svh (fun hb=>?_) (fun hb=>?_)|refine svb (fun b=>?_)|fail)); exact ⟨(v2, s2, L1 ++ l2), hI, lee, hw⟩
      · have nr1 := nr false m j e2 (by rw [e1, e2]; dsimp only; rw [if_neg hc])
        unfold runH runC DV.enc at *
        rw [IN.enc_eq] at np nq
        (repeat' (first|refine svz ⟨fun b hq=>?_⟩|refine svA ⟨?_⟩|refine svu ⟨fun u=>?_⟩|(refine svG (fun hg=>?_) (fun hg=>?_)<;>try exact svx)|refine svh (fun hb=>?_) (fun hb=>?_)|refine svb (fun b=>?_)|fail))
        refine S.call ?_; refine (np _).mono ?_; rintro r h' ⟨rfl, hh⟩; subst hh
        (repeat' (first|refine svz ⟨fun b hq=>?_⟩|refine svA ⟨?_⟩|refine svu ⟨fun u=>?_⟩|(refine svG (fun hg=>?_) (fun hg=>?_)<;>try exact svx)|refine svh (fun hb=>?_) (fun hb=>?_)|refine svb (fun b=>?_)|fail))
        refine S.call ?_; refine (nq _).mono ?_; rintro r h' ⟨rfl, hh⟩; subst hh
        (repeat' (first|refine svz ⟨fun b hq=>?_⟩|refine svA ⟨?_⟩|refine svu ⟨fun u=>?_⟩|(refine svG (fun hg=>?_) (fun hg=>?_)<;>try exact svx)|refine svh (fun hb=>?_) (fun hb=>?_)|refine svb (fun b=>?_)|fail))
        rw [decide_eq_false hc]
        refine Step.le (s' := ⟨48, [(0, .val (.pointer (some ⟨b0, 0, none⟩))), (34, .val (.pointer (some ⟨b0, 0, none⟩))), (46, AV.val (.bool (false)))], .box b0 (runC s1 (.val v1)) 135 :: .own v1 7 (L1.map SD.enc) 66 :: H⟩) lee ?_; refine S.call ?_; refine (nr1 H).mono ?_; rintro r h' ⟨v2, s2, l2, ⟨hI, hw⟩, rfl, hh⟩; unfold runH at hh; subst hh; (repeat' (first|refine svz ⟨fun b hq=>?_⟩|refine svA ⟨?_⟩|refine svu ⟨fun u=>?_⟩|(refine svG (fun hg=>?_) (fun hg=>?_)<;>try exact svx)|refine svh (fun hb=>?_) (fun hb=>?_)|refine svb (fun b=>?_)|fail)); exact ⟨(v2, s2, L1 ++ l2), hI, lee, hw⟩
end Go.Proofs.YtbknacpdcdkjiaaGreat
