/- Trees: put. No condition. -/
import Derived.Test.YtkpbbiknhhmfiaaQ6
namespace Go.Proofs.Ytkpbbiknhhmfiaa
open Go Go.VM
attribute [local irreducible] PurV Pur Step RL W D ACalls Then InBlock Fini
set_option linter.unusedVariables false
set_option linter.unusedSimpArgs false
set_option maxHeartbeats 20000000
theorem lk_ent : ∀ (k : SVT) (p : Int) (v : Value), lkF (k.map (entV p v)) p = (lkF k p).map fun _ => AV.val v
  | [], p, v => rfl
  | q :: k, p, v => by
    have ih := lk_ent k p v
    unfold lkF at *
    rw [List.map_cons, List.find?_cons, List.find?_cons]
    by_cases h : q.1 = p
    · have e : (entV p v q).1 = p := h
      simp [h, e, entV]
    · have e : ¬ (entV p v q).1 = p := h
      simp only [decide_eq_false h, decide_eq_false e]
      exact ih
set_option maxRecDepth 100000 in
theorem put_c (k : SVT) (up : UP) (id p : Int) (bk bu : Nat) (v : Value) (h : Heap) (hn : (k.map (·.1)).Nodup) (hl : (ofS k p).length ≤ 1000000) :
    ACalls Try.prog 45 [.agg [.val (.map (some bk)), .val (.map (some bu))], .val (.int .u32 (id)), .val (.int .u32 (p))] (mpV bk .u32 idA (k.map (entV p v)) :: mpV bu .u32 (vI .u32) up :: .own v 1 (ints .u32 (ofS k p)) 43 :: h)
      (fun r h' => ∃ w, r = .tup [] ∧ h' = mpV bk .u32 idA (putF (k.map (entV p v)) p (.val w)) :: mpV bu .u32 (vI .u32) (putF up id p) :: .own w 1 (ints .u32 (ofS k p ++ [id])) 43 :: h) := by
  refine ACalls.intro Try.func45 rfl Try.ntmps45 Try.results45 (Nat.le_of_ble_eq_true rfl) ?_
  (repeat' (first | refine svz ⟨fun b hq => ?_⟩ | refine sv1 ?_ | refine svs ⟨?_⟩ | refine svu ⟨fun u => ?_⟩ | (refine svg (fun hg => ?_) (fun hg => ?_) <;> try (exfalso; first | omega | contradiction)) | (refine svc (fun hc => ?_) (fun hc => ?_) <;> try (exfalso; first | omega | contradiction)) | refine sv2 ?_ | refine svh (fun hb => ?_) (fun hb => ?_) | refine svb (fun b => ?_) | refine sva ?_ | refine sv3 ?_))
  have hlk : lkF (k.map (entV p v)) p = (lkF k p).map fun _ => AV.val v := lk_ent k p v
  refine W.dr (.ro (.ro (.ro (.rw (.done _))))) ?_
  cases hk : lkF k p with
  | none =>
    rw [hk] at hlk
    (repeat' (first | refine svz ⟨fun b hq => ?_⟩ | refine sv1 ?_ | refine svs ⟨?_⟩ | refine svu ⟨fun u => ?_⟩ | (refine svg (fun hg => ?_) (fun hg => ?_) <;> try (exfalso; first | omega | contradiction)) | (refine svc (fun hc => ?_) (fun hc => ?_) <;> try (exfalso; first | omega | contradiction)) | refine sv2 ?_ | refine svh (fun hb => ?_) (fun hb => ?_) | refine svb (fun b => ?_) | refine sva ?_ | refine sv3 ?_))
    refine R2.F (v := .val (.slice none 0 0)) (step_pur (pur_look_own (f := idA) rfl (by (fail_if_success (apply memG)); repeat (first | exact List.Mem.head _ | assumption | refine List.Mem.tail _ ?_)) rfl (by rw [hlk]; exact Wk.refl _)) rfl (kf (LeH.refl _))) ?_
    (repeat' (first | (refine iR2 ?_; refine r2b ?_; refine R2.one (kk := 1) ?_) | (refine iS ?_; refine iN ?_; refine S.build1r ?_) | refine svz ⟨fun b hq => ?_⟩ | refine sv1 ?_ | refine svs ⟨?_⟩ | refine svu ⟨fun u => ?_⟩ | (refine svg (fun hg => ?_) (fun hg => ?_) <;> try (exfalso; first | omega | contradiction)) | (refine svc (fun hc => ?_) (fun hc => ?_) <;> try (exfalso; first | omega | contradiction)) | refine sv2 ?_ | refine svh (fun hb => ?_) (fun hb => ?_) | refine svb (fun b => ?_) | refine sva ?_ | refine sv3 ?_))
    refine S.mapU (f := idA) (m := k.map (entV p v)) (a := .val u) ?_
    (repeat' (first | (refine iS ?_; refine iMu ?_; refine S.mapU ?_) | refine svz ⟨fun b hq => ?_⟩ | refine sv1 ?_ | refine svs ⟨?_⟩ | refine svu ⟨fun u => ?_⟩ | (refine svg (fun hg => ?_) (fun hg => ?_) <;> try (exfalso; first | omega | contradiction)) | (refine svc (fun hc => ?_) (fun hc => ?_) <;> try (exfalso; first | omega | contradiction)) | refine sv2 ?_ | refine svh (fun hb => ?_) (fun hb => ?_) | refine svb (fun b => ?_) | refine sva ?_ | refine sv3 ?_))
    rw [show ofS k p = [] by unfold ofS; rw [hk]; rfl]
    refine fin_n (h' := mpV bk .u32 idA (putF (k.map (entV p v)) p (.val u)) :: mpV bu .u32 (vI .u32) (putF up id p) :: .own u 1 (ints .u32 ([] ++ [id])) 43 :: h) ⟨u, rfl, rfl⟩
  | some l0 =>
    rw [hk] at hlk
    generalize ofS k p = L at *
    (repeat' (first | refine svz ⟨fun b hq => ?_⟩ | refine sv1 ?_ | refine svs ⟨?_⟩ | refine svu ⟨fun u => ?_⟩ | (refine svg (fun hg => ?_) (fun hg => ?_) <;> try (exfalso; first | omega | contradiction)) | (refine svc (fun hc => ?_) (fun hc => ?_) <;> try (exfalso; first | omega | contradiction)) | refine sv2 ?_ | refine svh (fun hb => ?_) (fun hb => ?_) | refine svb (fun b => ?_) | refine sva ?_ | refine sv3 ?_))
    refine R2.F (v := .val v) (step_pur (pur_look_own (f := idA) rfl (by (fail_if_success (apply memG)); repeat (first | exact List.Mem.head _ | assumption | refine List.Mem.tail _ ?_)) rfl (by rw [hlk]; exact Wk.refl _)) rfl (kf (LeH.refl _))) ?_
    refine R2.T ?_
    refine R2.one (kk := 1) ?_
    refine R2.B ?_
    refine S.append (fun w => ?_)
    refine kd ?_
    refine R2.melt ?_
    refine R2.Bs ?_
    refine S.mapU (f := idA) (m := k.map (entV p v)) (a := .val w) ?_
    (repeat' (first | (refine iS ?_; refine iMu ?_; refine S.mapU ?_) | refine svz ⟨fun b hq => ?_⟩ | refine sv1 ?_ | refine svs ⟨?_⟩ | refine svu ⟨fun u => ?_⟩ | (refine svg (fun hg => ?_) (fun hg => ?_) <;> try (exfalso; first | omega | contradiction)) | (refine svc (fun hc => ?_) (fun hc => ?_) <;> try (exfalso; first | omega | contradiction)) | refine sv2 ?_ | refine svh (fun hb => ?_) (fun hb => ?_) | refine svb (fun b => ?_) | refine sva ?_ | refine sv3 ?_))
    rw [show ints .u32 (L ++ [id]) = ints .u32 L ++ [.val (.int .u32 (id))] by simp [ints]]
    exact fin_n (h' := mpV bk .u32 idA (putF (k.map (entV p v)) p (.val w)) :: mpV bu .u32 (vI .u32) (putF up id p) :: .own w 1 (ints .u32 L ++ [.val (.int .u32 (id))]) 43 :: h) ⟨w, rfl, rfl⟩
end Go.Proofs.Ytkpbbiknhhmfiaa
