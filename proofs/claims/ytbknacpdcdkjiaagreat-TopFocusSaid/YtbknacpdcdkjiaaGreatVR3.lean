/- What came in, in the walk's words: whole arguments. No condition. -/
import Derived.Test.YtbknacpdcdkjiaaGreatVR2
namespace Go.Proofs.YtbknacpdcdkjiaaGreat
open Go Go.VM Go.RowKit Go.ChangeShapes Go.WideShapes
set_option linter.unusedVariables false
set_option linter.unusedSimpArgs false
section
variable {H : Type} {enc : TypeId × Value → H} {P : Program} {W : World} {N : Nat}
theorem mem_fst {l : List (DataW H × List MemPlace)} {x : DataW H × List MemPlace} (h : x ∈ l) : x.1 ∈ l.map (·.1) := List.mem_map.2 ⟨x, h, rfl⟩
theorem trod_fits : ∀ (fuel : Nat) (t : TypeId) (cs : List Value) (d : DataW H) (ps : List MemPlace), TR enc P W fuel t cs = some (d, ps) → ∀ g sh, shOf P g t = some sh → Sm N d → ∃ l, RelL (heapG W) l cs ∧ Fits N sh l
  | 0, t, cs, d, ps, h, g, sh, hg, hs => by simp [TR, DataW.trod] at h
  | fuel + 1, t, cs, d, ps, h, 0, sh, hg, hs => by simp [shOf] at hg
  | fuel + 1, t, cs, d, ps, h, g + 1, sh, hg, hs => by
    have ih := trod_fits fuel
    rw [shOf] at hg
    split at hg
    · rename_i hu
      injection hg with hg; subst hg
      rcases cs with _ | ⟨v, _ | ⟨w, r⟩⟩ <;> (try cases v) <;> simp [TR, DataW.trod, hu] at h
      exact ⟨[.val (.bool _)], by simp only [RelL]; exact ⟨_, _, rfl, rel_val rfl, rfl⟩, _, rfl⟩
    · rename_i k hu
      injection hg with hg; subst hg
      rcases cs with _ | ⟨v, _ | ⟨w, r⟩⟩ <;> (try cases v) <;> simp [TR, DataW.trod, hu] at h
      obtain ⟨⟨rfl, hw⟩, _⟩ := h
      exact ⟨[.val (.int _ _)], by simp only [RelL]; exact ⟨_, _, rfl, rel_val rfl, rfl⟩, _, rfl, hw⟩
    · rename_i hu
      injection hg with hg; subst hg
      rcases cs with _ | ⟨v, _ | ⟨w, r⟩⟩ <;> (try cases v) <;> simp [TR, DataW.trod, hu] at h
      obtain ⟨hz, rfl, _⟩ := h
      refine ⟨[.val (.string _)], by simp only [RelL]; exact ⟨_, _, rfl, rel_val rfl, rfl⟩, _, rfl, ?_⟩
      rcases hs with hs | hs
      · omega
      · simp only [Rows.uptoBulk] at hs
        have : ∀ s : ByteArray, s.data.toList.length = s.size := fun s => by rw [Array.length_toList]; rfl
        rw [this] at hs
        omega
    · rename_i e hu
      split at hg
      · cases hg
      rename_i hk
      split at hg
      · rename_i s he
        injection hg with hg; subst hg
        rcases cs with _ | ⟨v, _ | ⟨w, r⟩⟩
        · simp [TR, DataW.trod, hu] at h
        · cases v
          case slice A len cap =>
            cases A with
            | none =>
              have h' : len = 0 ∧ cap = 0 := by
                rcases len with _ | len <;> rcases cap with _ | cap <;> simp [TR, DataW.trod, hu] at h <;> simp
              obtain ⟨rfl, rfl⟩ := h'
              refine ⟨[.ro _ []], ?_, [], rfl, Nat.zero_le _, by simp⟩
              simp only [RelL, Rel]
              exact ⟨_, _, rfl, ⟨none, 0, rfl, Nat.le_refl _, Nat.zero_le _, fun _ => rfl, fun h => absurd rfl h⟩, rfl⟩
            | some a =>
              simp only [TR, DataW.trod, hu] at h
              split at h
              · rename_i hc
                simp only [Option.bind_eq_some_iff, Option.map_eq_some_iff, Prod.mk.injEq] at h
                obtain ⟨xs, hx, rest, hr, rfl, _⟩ := h
                have hlx := (mapM_at hx).1
                rw [List.length_range] at hlx
                have hsm : ∀ x ∈ xs, Sm N x.1 := fun x hx => hs.sub (by simp only [Rows.uptoBulk]; omega) (mem_fst hx)
                obtain ⟨es, g1, g2, g3⟩ := elem_fits (P := P) (fuel := fuel) (e := e) (s := s) (fun cs d ps h hs => ih e cs d ps h g s he hs) (List.range len) xs hx hsm
                rw [List.length_range] at g1
                refine ⟨[.ro _ es], ?_, es, rfl, ?_, g2⟩
                · simp only [RelL]
                  exact ⟨_, _, rfl, slice_rel (Nat.pos_of_ne_zero hk) hc.2.1 hc.2.2 g1 g3, rfl⟩
                · rw [g1]
                  rcases hs with hs | hs
                  · omega
                  · simp only [Rows.uptoBulk] at hs
                    have := bulk_len (xs.map (·.1))
                    rw [List.length_map, hlx] at this
                    omega
              · cases h
          all_goals simp [TR, DataW.trod, hu] at h
        · simp [TR, DataW.trod, hu] at h
      · cases hg
    · rename_i fs hu
      split at hg
      · rename_i hc
        have h' : cs.length = P.cellsOf t ∧ ∃ xs, (fs.toList.mapM fun f => TR enc P W fuel f.type ((cs.drop f.offset).take (P.cellsOf f.type))) = some xs ∧ d = .agg (xs.map (·.1)) := by
          rcases cs with _ | ⟨v, _ | ⟨w, r⟩⟩
          all_goals
            simp only [TR, DataW.trod, hu] at h
            split at h
            · rename_i hl
              simp only [Option.map_eq_some_iff, Prod.mk.injEq] at h
              obtain ⟨xs, hx, rfl, _⟩ := h
              exact ⟨hl, xs, hx, rfl⟩
            · cases h
        obtain ⟨hl, xs, hx, rfl⟩ := h'
        obtain ⟨l, g1, g2⟩ := fld_fits (g := shOf P g) (fun t cs d ps h sh hg hs => ih t cs d ps h g sh hg hs) fs.toList 0 _ cs xs sh hl hc hg hx (fun x hx => hs.sub (by simp only [Rows.uptoBulk]; omega) (mem_fst hx))
        exact ⟨l, by simpa using g1, g2⟩
      · cases hg
    · rename_i n e hu
      split at hg
      · rename_i hc
        split at hg
        · rename_i s he
          injection hg with hg; subst hg
          have h' : cs.length = P.cellsOf t ∧ ∃ xs, ((List.range n).mapM fun i => TR enc P W fuel e ((cs.drop (i * P.cellsOf e)).take (P.cellsOf e))) = some xs ∧ d = .agg (xs.map (·.1)) := by
            rcases cs with _ | ⟨v, _ | ⟨w, r⟩⟩
            all_goals
              simp only [TR, DataW.trod, hu] at h
              split at h
              · rename_i hl
                simp only [Option.map_eq_some_iff, Prod.mk.injEq] at h
                obtain ⟨xs, hx, rfl, _⟩ := h
                exact ⟨hl, xs, hx, rfl⟩
              · cases h
          obtain ⟨hl, xs, hx, rfl⟩ := h'
          rw [List.range_eq_range'] at hx
          obtain ⟨l, g1, g2⟩ := arr_fits (s := s) (fun cs d ps h hs => ih e cs d ps h g s he hs) (hl.trans hc.symm) n 0 xs (by omega) hx (fun x hx => hs.sub (by simp only [Rows.uptoBulk]; omega) (mem_fst hx))
          exact ⟨l, by simpa using g1, g2⟩
        · cases hg
      · cases hg
    · cases hg
theorem isSt_flds {g : TypeId → Option Sh} : ∀ {fs : List Field} {sh : Sh}, flds P g fs = some sh → sh.isSt = true
  | [], sh, h => by simp only [flds, Option.some.injEq] at h; subst h; rfl
  | f :: r, sh, h => by
    simp only [flds] at h
    split at h
    · injection h with h; subst h; rfl
    · cases h
theorem isSt_chain (k : Nat) (s : Sh) (n : Nat) : (chain k s n).isSt = true := by cases n <;> rfl
theorem arg_fits {t : TypeId} {v : Value} {d : DataW H} {ps : List MemPlace} (h : DataW.Trod enc P W 0 (fun _ => true) true t v d ps) {base : Nat} (hv : Value.okWide P W .any base t v) {g : Nat} {sh : Sh} (hg : shOf P g t = some sh) (hs : Sm N d) :
    ∃ x, Rel (heapG W) x v ∧ FitE N sh x := by
  obtain ⟨fuel, h⟩ := h
  obtain ⟨l, g1, g2⟩ := trod_fits fuel t _ d ps h g sh hg hs
  have hon := rel_ones g1 g2.ones
  cases g with
  | zero => simp [shOf] at hg
  | succ g =>
    cases hst : sh.isSt
    · obtain ⟨x, rfl⟩ := g2.single hst
      simp only [RelL] at g1
      obtain ⟨c, r, e, h1, rfl⟩ := g1
      have hvc : v = c := by
        have hc := hon c (by rw [e]; exact .head _)
        rw [Value.okWide] at hv
        split at hv
        · rename_i fs hu
          rw [shOf] at hg
          simp only [hu] at hg
          split at hg
          · rw [isSt_flds hg] at hst; cases hst
          · cases hg
        · rename_i n el hu
          rw [shOf] at hg
          simp only [hu] at hg
          split at hg
          · split at hg
            · injection hg with hg; subst hg; rw [isSt_chain] at hst; cases hst
            · cases hg
          · cases hg
        · cases v
          case agg cs =>
            exfalso
            rename_i h1' h2'
            unfold Cell.okWide at hv
            split at hv <;> simp_all
            unfold Cell.ok at hv
            split at hv <;> simp_all
          all_goals (simp [Value.cells] at e; exact e)
      subst hvc
      exact ⟨x, h1, by unfold FitE FitB; rw [hst]; exact g2⟩
    · have hva : ∃ cs, v = .agg cs := by
        rw [Value.okWide] at hv
        split at hv
        · obtain ⟨cs, h, _⟩ := hv; exact ⟨cs, h⟩
        · obtain ⟨cs, h, _⟩ := hv; exact ⟨cs, h⟩
        · rename_i h1 h2
          exfalso
          rw [shOf] at hg
          split at hg
          · injection hg with hg; subst hg; cases hst
          · injection hg with hg; subst hg; cases hst
          · injection hg with hg; subst hg; cases hst
          · split at hg
            · cases hg
            · split at hg
              · injection hg with hg; subst hg; cases hst
              · cases hg
          · rename_i fs hu; exact h1 _ hu
          · rename_i n e hu; exact h2 _ _ hu
          · cases hg
      obtain ⟨cs, rfl⟩ := hva
      refine ⟨.agg l, by simp only [Rel]; exact ⟨cs, rfl, by simpa [Value.cells] using g1⟩, ?_⟩
      unfold FitE FitB
      rw [hst]
      exact ⟨l, rfl, g2⟩
theorem relL_cons {m : Ghost} {x : AV} {xs : List AV} {c : Value} {cs : List Value} (h : Rel m x c) (k : RelL m xs cs) : RelL m (x :: xs) (c :: cs) := by
  simp only [RelL]; exact ⟨c, cs, rfl, h, k⟩
def FitAll (N : Nat) : List Sh → List AV → Prop
  | [], l => l = []
  | s :: r, l => ∃ x q, l = x :: q ∧ FitE N s x ∧ FitAll N r q
theorem args_fit : ∀ (ts : List TypeId) (vs : List Value) (ds : List (DataW H)) (ps : List MemPlace) (shs : List Sh), DataW.TrodAll enc P W 0 (fun _ => true) true ts vs ds ps → ts.map (shOf P 20) = shs.map some →
    ∀ {base : Nat}, (∀ (j : Nat) t v, ts[j]? = some t → vs[j]? = some v → Value.okWide P W .any base t v) → (∀ d ∈ ds, Sm N d) → ∃ l, RelL (heapG W) l vs ∧ FitAll N shs l
  | [], [], [], ps, shs, h, hs, _, hv, hb => by
    have : shs = [] := by cases shs with | nil => rfl | cons _ _ => simp at hs
    subst this
    exact ⟨[], by simp [RelL], rfl⟩
  | t :: ts, v :: vs, d :: ds, ps, shs, h, hs, _, hv, hb => by
    obtain ⟨p, q, h1, h2, _⟩ := h
    cases shs with
    | nil => simp at hs
    | cons s shs =>
      simp only [List.map_cons, List.cons.injEq] at hs
      obtain ⟨x, g1, g2⟩ := arg_fits h1 (hv 0 t v rfl rfl) hs.1 (hb d (.head _))
      obtain ⟨l, k1, k2⟩ := args_fit ts vs ds q shs h2 hs.2 (fun j t v h1 h2 => hv (j + 1) t v (by simpa using h1) (by simpa using h2)) (fun d hd => hb d (.tail _ hd))
      exact ⟨x :: l, relL_cons g1 k1, x, l, rfl, g2, k2⟩
  | [], _ :: _, _, ps, shs, h, _, _, _, _ => by simp [DataW.TrodAll] at h
  | [], [], _ :: _, ps, shs, h, _, _, _, _ => by simp [DataW.TrodAll] at h
  | _ :: _, [], _, ps, shs, h, _, _, _, _ => by simp [DataW.TrodAll] at h
  | _ :: _, _ :: _, [], ps, shs, h, _, _, _, _ => by simp [DataW.TrodAll] at h
theorem trods_stay (hl : laidOutB P = true) {W' : World} (hb : Below W.heap.size W W') : ∀ (ts : List TypeId) (vs : List Value) (ds : List (DataW H)) (ps : List MemPlace), (ts.all fun t => P.readableRec t && decide (t < P.types.size)) = true →
    DataW.TrodAll enc P W 0 (fun _ => true) true ts vs ds ps → DataW.TrodAll enc P W' 0 (fun b => decide (b < W.heap.size)) true ts vs ds ps
  | [], [], [], ps, _, h => h
  | t :: ts, v :: vs, d :: ds, ps, hr, h => by
    obtain ⟨p, q, h1, h2, rfl⟩ := h
    rw [List.all_cons, Bool.and_eq_true, Bool.and_eq_true] at hr
    have lt : ∀ x ∈ p, x.block < W.heap.size := by obtain ⟨m, hm⟩ := h1; exact DataW.trod_lt m _ _ _ hm
    exact ⟨p, q, Below.trod hl hr.1.1 (of_decide_eq_true hr.1.2) h1 hb lt, trods_stay hl hb ts vs ds q hr.2 h2, rfl⟩
  | [], _ :: _, _, ps, _, h => by simp [DataW.TrodAll] at h
  | [], [], _ :: _, ps, _, h => by simp [DataW.TrodAll] at h
  | _ :: _, [], _, ps, _, h => by simp [DataW.TrodAll] at h
  | _ :: _, _ :: _, [], ps, _, h => by simp [DataW.TrodAll] at h
theorem trodAll_len {ts : List TypeId} {vs : List Value} {ds : List (DataW H)} {ps : List MemPlace} {base : Nat} {sp : Nat → Bool} {hd : Bool} (h : DataW.TrodAll enc P W base sp hd ts vs ds ps) : ds.length = ts.length := by
  induction ts generalizing vs ds ps with
  | nil => cases vs <;> cases ds <;> simp [DataW.TrodAll] at h ⊢
  | cons t ts ih =>
    cases vs <;> cases ds <;> simp only [DataW.TrodAll] at h
    obtain ⟨_, _, _, h2, _⟩ := h
    simp [ih h2]
theorem ds6 {α : Type} {ds : List α} (h : ds.length = 6) : ∃ a b c d e f, ds = [a, b, c, d, e, f] := by
  match ds, h with | [a, b, c, d, e, f], _ => exact ⟨a, b, c, d, e, f, rfl⟩
theorem holds_heapG (W : World) : Holds (heapG W) W := fun b o h => h
theorem row_walk {f : FuncId} {ts : List TypeId} {shs : List Sh} (hsh : ts.map (shOf P 20) = shs.map some) (hk : ∀ l, FitAll N shs l → ACalls P f l [] (fun r h' => r = .val (.bool true)))
    {args : Array Value} {ds : List (DataW H)} {ps : List MemPlace} (hA : DataW.TrodAll enc P W 0 (fun _ => true) true ts args.toList ds ps) {base : Nat} (hv : ∀ (j : Nat) t v, ts[j]? = some t → args.toList[j]? = some v → Value.okWide P W .any base t v)
    (hb : ∀ d ∈ ds, Sm N d) (hl : laidOutB P = true) (hr : (ts.all fun t => P.readableRec t && decide (t < P.types.size)) = true) :
    Calls P f args W fun e W' => e = .returned (.bool true) ∧ Below W.heap.size W W' ∧ DataW.TrodAll enc P W' 0 (fun b => decide (b < W.heap.size)) true ts args.toList ds ps := by
  obtain ⟨l, g1, g2⟩ := args_fit ts args.toList ds ps shs hA hsh hv hb
  refine (hk l g2 (heapG W) W args.toList (holds_heapG W) g1 ⟨by simp, by simp⟩).mono fun e W' ⟨m', v, r, h', q1, q2, q3, q4, q5, q6, q7, q8⟩ => ?_
  subst q8
  simp only [Rel] at q5
  obtain ⟨rfl, _⟩ := q5
  have hbel : Below W.heap.size W W' := ⟨q4.os, q4.tape, q4.output, q4.size, fun k hk => q7.frame k hk (by simp)⟩
  exact ⟨q1, hbel, trods_stay hl hbel ts _ ds ps hr hA⟩
end
end Go.Proofs.YtbknacpdcdkjiaaGreat
