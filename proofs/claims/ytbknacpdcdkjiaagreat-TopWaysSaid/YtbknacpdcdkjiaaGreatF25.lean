/- A grab's end. No condition. -/
import Derived.Test.YtbknacpdcdkjiaaGreatF24
namespace Go.Proofs.YtbknacpdcdkjiaaGreat
open Go Go.VM
set_option maxRecDepth 100000
attribute [local irreducible] PurV Pur Step RL W D ACalls Then InBlock Fini
set_option linter.unusedVariables false
set_option linter.unusedSimpArgs false
set_option maxHeartbeats 20000000
def endF (s : RT) (p : Bool) : RT := (s.setd p (s.dv p).end_).setd (!p) (lgF ((s.setd p (s.dv p).end_).dv (!p)))
theorem end_c (b0 : Nat) (v : AV) (s : RT) (p : Bool) (H : Heap) : ACalls Tryz.prog 86 [.val (.pointer (some ⟨b0, 0, none⟩)), AV.val (.bool (p))] (.box b0 (runC s v) 135 :: H) (fun r h' => r = .tup [] ∧ h' = .box b0 (runC (endF s p) v) 135 :: H) := by
  have dc := fun p h => device_c b0 p h
  have ec := fun h => dend_c (s.dv p) h
  have lc := fun H => letgo_c b0 v (s.setd p (s.dv p).end_) (!p) H
  unfold endF
  generalize (s.setd p (s.dv p).end_).setd (!p) _ = s2 at *
  cases p with
  | true =>
    have dc1 := fun h => dc true h
    have dc2 := fun h => dc false h
    simp only [Bool.not_true, Bool.not_false, Bool.false_eq_true, ↓reduceIte] at dc1 dc2 lc
    unfold runC DV.enc at *
    refine ACalls.intro Tryz.func86 rfl Tryz.ntmps86 Tryz.results86 (Nat.le_of_ble_eq_true rfl) ?_
    (repeat' (first|refine svz ⟨fun b hq=>?_⟩|refine svA ⟨?_⟩|refine svu ⟨fun u=>?_⟩|(refine svG (fun hg=>?_) (fun hg=>?_)<;>try exact svx)|refine svh (fun hb=>?_) (fun hb=>?_)|refine svb (fun b=>?_)|fail))
    refine S.call ?_; refine (dc1 _).mono ?_; rintro r h' ⟨rfl, hh⟩; subst hh
    (repeat' (first|refine svz ⟨fun b hq=>?_⟩|refine svA ⟨?_⟩|refine svu ⟨fun u=>?_⟩|(refine svG (fun hg=>?_) (fun hg=>?_)<;>try exact svx)|refine svh (fun hb=>?_) (fun hb=>?_)|refine svb (fun b=>?_)|fail))
    refine S.call ?_; refine (ec _).mono ?_; rintro r h' ⟨rfl, hh⟩; subst hh
    (repeat' (first|refine svz ⟨fun b hq=>?_⟩|refine svA ⟨?_⟩|refine svu ⟨fun u=>?_⟩|(refine svG (fun hg=>?_) (fun hg=>?_)<;>try exact svx)|refine svh (fun hb=>?_) (fun hb=>?_)|refine svb (fun b=>?_)|fail))
    refine S.store_any ?_ (hl := Nat.le_of_ble_eq_true rfl)
    (repeat' (first|refine svz ⟨fun b hq=>?_⟩|refine svA ⟨?_⟩|refine svu ⟨fun u=>?_⟩|(refine svG (fun hg=>?_) (fun hg=>?_)<;>try exact svx)|refine svh (fun hb=>?_) (fun hb=>?_)|refine svb (fun b=>?_)|fail))
    refine S.call ?_; refine (dc2 _).mono ?_; rintro r h' ⟨rfl, hh⟩; subst hh
    (repeat' (first|refine svz ⟨fun b hq=>?_⟩|refine svA ⟨?_⟩|refine svu ⟨fun u=>?_⟩|(refine svG (fun hg=>?_) (fun hg=>?_)<;>try exact svx)|refine svh (fun hb=>?_) (fun hb=>?_)|refine svb (fun b=>?_)|fail))
    refine S.call ?_; refine (lc _).mono ?_; rintro r h' ⟨rfl, hh⟩; subst hh
    (repeat' (first|refine svz ⟨fun b hq=>?_⟩|refine svA ⟨?_⟩|refine svu ⟨fun u=>?_⟩|(refine svG (fun hg=>?_) (fun hg=>?_)<;>try exact svx)|refine svh (fun hb=>?_) (fun hb=>?_)|refine svb (fun b=>?_)|fail))
    exact fin_n (vs := []) (h' := .box b0 (runC s2 v) 135 :: H) ⟨rfl, rfl⟩
  | false =>
    have dc1 := fun h => dc false h
    have dc2 := fun h => dc true h
    simp only [Bool.not_true, Bool.not_false, Bool.false_eq_true, ↓reduceIte] at dc1 dc2 lc
    unfold runC DV.enc at *
    refine ACalls.intro Tryz.func86 rfl Tryz.ntmps86 Tryz.results86 (Nat.le_of_ble_eq_true rfl) ?_
    (repeat' (first|refine svz ⟨fun b hq=>?_⟩|refine svA ⟨?_⟩|refine svu ⟨fun u=>?_⟩|(refine svG (fun hg=>?_) (fun hg=>?_)<;>try exact svx)|refine svh (fun hb=>?_) (fun hb=>?_)|refine svb (fun b=>?_)|fail))
    refine S.call ?_; refine (dc1 _).mono ?_; rintro r h' ⟨rfl, hh⟩; subst hh
    (repeat' (first|refine svz ⟨fun b hq=>?_⟩|refine svA ⟨?_⟩|refine svu ⟨fun u=>?_⟩|(refine svG (fun hg=>?_) (fun hg=>?_)<;>try exact svx)|refine svh (fun hb=>?_) (fun hb=>?_)|refine svb (fun b=>?_)|fail))
    refine S.call ?_; refine (ec _).mono ?_; rintro r h' ⟨rfl, hh⟩; subst hh
    (repeat' (first|refine svz ⟨fun b hq=>?_⟩|refine svA ⟨?_⟩|refine svu ⟨fun u=>?_⟩|(refine svG (fun hg=>?_) (fun hg=>?_)<;>try exact svx)|refine svh (fun hb=>?_) (fun hb=>?_)|refine svb (fun b=>?_)|fail))
    refine S.store_any ?_ (hl := Nat.le_of_ble_eq_true rfl)
    (repeat' (first|refine svz ⟨fun b hq=>?_⟩|refine svA ⟨?_⟩|refine svu ⟨fun u=>?_⟩|(refine svG (fun hg=>?_) (fun hg=>?_)<;>try exact svx)|refine svh (fun hb=>?_) (fun hb=>?_)|refine svb (fun b=>?_)|fail))
    refine S.call ?_; refine (dc2 _).mono ?_; rintro r h' ⟨rfl, hh⟩; subst hh
    (repeat' (first|refine svz ⟨fun b hq=>?_⟩|refine svA ⟨?_⟩|refine svu ⟨fun u=>?_⟩|(refine svG (fun hg=>?_) (fun hg=>?_)<;>try exact svx)|refine svh (fun hb=>?_) (fun hb=>?_)|refine svb (fun b=>?_)|fail))
    refine S.call ?_; refine (lc _).mono ?_; rintro r h' ⟨rfl, hh⟩; subst hh
    (repeat' (first|refine svz ⟨fun b hq=>?_⟩|refine svA ⟨?_⟩|refine svu ⟨fun u=>?_⟩|(refine svG (fun hg=>?_) (fun hg=>?_)<;>try exact svx)|refine svh (fun hb=>?_) (fun hb=>?_)|refine svb (fun b=>?_)|fail))
    exact fin_n (vs := []) (h' := .box b0 (runC s2 v) 135 :: H) ⟨rfl, rfl⟩
theorem endif_c (b0 : Nat) (v : AV) (s : RT) (p q : Bool) (H : Heap) {f : Nat} {fv : AV} {caps : List AV} [TFun Tryz.prog f] (hF : Fv fv f caps)
    (hq : (s.dv p).g = true → ∀ b6, ACalls Tryz.prog f ([(s.dv p).a.enc] ++ caps) (.box b6 (s.dv p).a.enc.cells 45 :: .box b0 (runC s v) 135 :: H) (fun r h' => r = AV.val (.bool (q)) ∧ h' = .box b6 (s.dv p).a.enc.cells 45 :: .box b0 (runC s v) 135 :: H)) :
    ACalls Tryz.prog 47 [.val (.pointer (some ⟨b0, 0, none⟩)), AV.val (.bool (p)), fv] (.box b0 (runC s v) 135 :: H) (fun r h' => r = .tup [] ∧ h' = .box b0 (runC (if (s.dv p).g && q then endF s p else s) v) 135 :: H) := by
  have ec := fun H => end_c b0 v s p H
  generalize endF s p = s2 at *
  cases p with
  | true =>
    have dc1 := fun h => device_c b0 true h
    have ac := fun h => active_c s.p h
    simp only [Bool.not_true, Bool.not_false, Bool.false_eq_true, ↓reduceIte] at dc1
    rw [show s.dv true = s.p from rfl] at *
    cases hg : s.p.g with
    | true =>
      have hq1 := hq hg
      rw [hg] at ac
      unfold runC DV.enc AC.enc at *
      refine ACalls.intro Tryz.func47 rfl Tryz.ntmps47 Tryz.results47 (Nat.le_of_ble_eq_true rfl) ?_
      (repeat' (first|refine svz ⟨fun b hq=>?_⟩|refine svA ⟨?_⟩|refine svu ⟨fun u=>?_⟩|(refine svG (fun hg=>?_) (fun hg=>?_)<;>try exact svx)|refine svh (fun hb=>?_) (fun hb=>?_)|refine svb (fun b=>?_)|fail))
      refine S.call ?_; refine (dc1 _).mono ?_; rintro r h' ⟨rfl, hh⟩; subst hh
      (repeat' (first|refine svz ⟨fun b hq=>?_⟩|refine svA ⟨?_⟩|refine svu ⟨fun u=>?_⟩|(refine svG (fun hg=>?_) (fun hg=>?_)<;>try exact svx)|refine svh (fun hb=>?_) (fun hb=>?_)|refine svb (fun b=>?_)|fail))
      refine S.call ?_; refine (ac _).mono ?_; rintro r h' ⟨rfl, hh⟩; subst hh
      (repeat' (first|refine svz ⟨fun b hq=>?_⟩|refine svA ⟨?_⟩|refine svu ⟨fun u=>?_⟩|(refine svG (fun hg=>?_) (fun hg=>?_)<;>try exact svx)|refine svh (fun hb=>?_) (fun hb=>?_)|refine svb (fun b=>?_)|fail))
      refine S.callv hF ((hq1 _).mono ?_)
      rintro r h' ⟨rfl, hh⟩
      subst hh
      cases q with
      | true =>
        (repeat' (first|refine svz ⟨fun b hq=>?_⟩|refine svA ⟨?_⟩|refine svu ⟨fun u=>?_⟩|(refine svG (fun hg=>?_) (fun hg=>?_)<;>try exact svx)|refine svh (fun hb=>?_) (fun hb=>?_)|refine svb (fun b=>?_)|fail))
        refine Step.le (s' := ⟨26, [(23, .val (.pointer (some ⟨b0, 0, none⟩))), (24, AV.val (.bool (true)))], .box b0 (runC s v) 135 :: H⟩) lee ?_
        refine S.call ?_; refine (ec _).mono ?_; rintro r h' ⟨rfl, hh⟩; subst hh
        (repeat' (first|refine svz ⟨fun b hq=>?_⟩|refine svA ⟨?_⟩|refine svu ⟨fun u=>?_⟩|(refine svG (fun hg=>?_) (fun hg=>?_)<;>try exact svx)|refine svh (fun hb=>?_) (fun hb=>?_)|refine svb (fun b=>?_)|fail))
        exact fin_n (vs := []) (h' := .box b0 (runC s2 v) 135 :: H) ⟨rfl, rfl⟩
      | false =>
        (repeat' (first|refine svz ⟨fun b hq=>?_⟩|refine svA ⟨?_⟩|refine svu ⟨fun u=>?_⟩|(refine svG (fun hg=>?_) (fun hg=>?_)<;>try exact svx)|refine svh (fun hb=>?_) (fun hb=>?_)|refine svb (fun b=>?_)|fail))
        exact fin_n (vs := []) (h' := .box b0 (runC s v) 135 :: H) ⟨rfl, rfl⟩
    | false =>
      rw [hg] at ac
      unfold runC DV.enc AC.enc at *
      refine ACalls.intro Tryz.func47 rfl Tryz.ntmps47 Tryz.results47 (Nat.le_of_ble_eq_true rfl) ?_
      (repeat' (first|refine svz ⟨fun b hq=>?_⟩|refine svA ⟨?_⟩|refine svu ⟨fun u=>?_⟩|(refine svG (fun hg=>?_) (fun hg=>?_)<;>try exact svx)|refine svh (fun hb=>?_) (fun hb=>?_)|refine svb (fun b=>?_)|fail))
      refine S.call ?_; refine (dc1 _).mono ?_; rintro r h' ⟨rfl, hh⟩; subst hh
      (repeat' (first|refine svz ⟨fun b hq=>?_⟩|refine svA ⟨?_⟩|refine svu ⟨fun u=>?_⟩|(refine svG (fun hg=>?_) (fun hg=>?_)<;>try exact svx)|refine svh (fun hb=>?_) (fun hb=>?_)|refine svb (fun b=>?_)|fail))
      refine S.call ?_; refine (ac _).mono ?_; rintro r h' ⟨rfl, hh⟩; subst hh
      (repeat' (first|refine svz ⟨fun b hq=>?_⟩|refine svA ⟨?_⟩|refine svu ⟨fun u=>?_⟩|(refine svG (fun hg=>?_) (fun hg=>?_)<;>try exact svx)|refine svh (fun hb=>?_) (fun hb=>?_)|refine svb (fun b=>?_)|fail))
      exact fin_n (vs := []) (h' := .box b0 (runC s v) 135 :: H) ⟨rfl, rfl⟩
  | false =>
    have dc1 := fun h => device_c b0 false h
    have ac := fun h => active_c s.q h
    simp only [Bool.not_true, Bool.not_false, Bool.false_eq_true, ↓reduceIte] at dc1
    rw [show s.dv false = s.q from rfl] at *
    cases hg : s.q.g with
    | true =>
      have hq1 := hq hg
      rw [hg] at ac
      unfold runC DV.enc AC.enc at *
      refine ACalls.intro Tryz.func47 rfl Tryz.ntmps47 Tryz.results47 (Nat.le_of_ble_eq_true rfl) ?_
      (repeat' (first|refine svz ⟨fun b hq=>?_⟩|refine svA ⟨?_⟩|refine svu ⟨fun u=>?_⟩|(refine svG (fun hg=>?_) (fun hg=>?_)<;>try exact svx)|refine svh (fun hb=>?_) (fun hb=>?_)|refine svb (fun b=>?_)|fail))
      refine S.call ?_; refine (dc1 _).mono ?_; rintro r h' ⟨rfl, hh⟩; subst hh
      (repeat' (first|refine svz ⟨fun b hq=>?_⟩|refine svA ⟨?_⟩|refine svu ⟨fun u=>?_⟩|(refine svG (fun hg=>?_) (fun hg=>?_)<;>try exact svx)|refine svh (fun hb=>?_) (fun hb=>?_)|refine svb (fun b=>?_)|fail))
      refine S.call ?_; refine (ac _).mono ?_; rintro r h' ⟨rfl, hh⟩; subst hh
      (repeat' (first|refine svz ⟨fun b hq=>?_⟩|refine svA ⟨?_⟩|refine svu ⟨fun u=>?_⟩|(refine svG (fun hg=>?_) (fun hg=>?_)<;>try exact svx)|refine svh (fun hb=>?_) (fun hb=>?_)|refine svb (fun b=>?_)|fail))
      refine S.callv hF ((hq1 _).mono ?_)
      rintro r h' ⟨rfl, hh⟩
      subst hh
      cases q with
      | true =>
        (repeat' (first|refine svz ⟨fun b hq=>?_⟩|refine svA ⟨?_⟩|refine svu ⟨fun u=>?_⟩|(refine svG (fun hg=>?_) (fun hg=>?_)<;>try exact svx)|refine svh (fun hb=>?_) (fun hb=>?_)|refine svb (fun b=>?_)|fail))
        refine Step.le (s' := ⟨26, [(23, .val (.pointer (some ⟨b0, 0, none⟩))), (24, AV.val (.bool (false)))], .box b0 (runC s v) 135 :: H⟩) lee ?_
        refine S.call ?_; refine (ec _).mono ?_; rintro r h' ⟨rfl, hh⟩; subst hh
        (repeat' (first|refine svz ⟨fun b hq=>?_⟩|refine svA ⟨?_⟩|refine svu ⟨fun u=>?_⟩|(refine svG (fun hg=>?_) (fun hg=>?_)<;>try exact svx)|refine svh (fun hb=>?_) (fun hb=>?_)|refine svb (fun b=>?_)|fail))
        exact fin_n (vs := []) (h' := .box b0 (runC s2 v) 135 :: H) ⟨rfl, rfl⟩
      | false =>
        (repeat' (first|refine svz ⟨fun b hq=>?_⟩|refine svA ⟨?_⟩|refine svu ⟨fun u=>?_⟩|(refine svG (fun hg=>?_) (fun hg=>?_)<;>try exact svx)|refine svh (fun hb=>?_) (fun hb=>?_)|refine svb (fun b=>?_)|fail))
        exact fin_n (vs := []) (h' := .box b0 (runC s v) 135 :: H) ⟨rfl, rfl⟩
    | false =>
      rw [hg] at ac
      unfold runC DV.enc AC.enc at *
      refine ACalls.intro Tryz.func47 rfl Tryz.ntmps47 Tryz.results47 (Nat.le_of_ble_eq_true rfl) ?_
      (repeat' (first|refine svz ⟨fun b hq=>?_⟩|refine svA ⟨?_⟩|refine svu ⟨fun u=>?_⟩|(refine svG (fun hg=>?_) (fun hg=>?_)<;>try exact svx)|refine svh (fun hb=>?_) (fun hb=>?_)|refine svb (fun b=>?_)|fail))
      refine S.call ?_; refine (dc1 _).mono ?_; rintro r h' ⟨rfl, hh⟩; subst hh
      (repeat' (first|refine svz ⟨fun b hq=>?_⟩|refine svA ⟨?_⟩|refine svu ⟨fun u=>?_⟩|(refine svG (fun hg=>?_) (fun hg=>?_)<;>try exact svx)|refine svh (fun hb=>?_) (fun hb=>?_)|refine svb (fun b=>?_)|fail))
      refine S.call ?_; refine (ac _).mono ?_; rintro r h' ⟨rfl, hh⟩; subst hh
      (repeat' (first|refine svz ⟨fun b hq=>?_⟩|refine svA ⟨?_⟩|refine svu ⟨fun u=>?_⟩|(refine svG (fun hg=>?_) (fun hg=>?_)<;>try exact svx)|refine svh (fun hb=>?_) (fun hb=>?_)|refine svb (fun b=>?_)|fail))
      exact fin_n (vs := []) (h' := .box b0 (runC s v) 135 :: H) ⟨rfl, rfl⟩
end Go.Proofs.YtbknacpdcdkjiaaGreat
