import Derived.Test.YtmhncankbgjmbaaVM6
namespace Go.VM
open Go
set_option linter.unusedVariables false
set_option linter.unusedSimpArgs false
section
variable {P : Program} {t : Nat} {s : St} {K : St → Prop}
variable {d : Option Nat} {ty : Nat} {pos : String} {af : Array Edge} {gd : Option (Nat × Bool)} {h h' : Heap} {x y : Operand} {tm : List (Nat × AV)}
/-! ### Calls -/
def callQ (P : Program) (f : Nat) : Bool :=
  match P.funcs[f]? with
  | some fn => !(fn.name == "runtime.NumGoroutine") && fn.body.isSome
  | none => false
class TFun (P : Program) (f : Nat) : Prop where h : callQ P f = true
theorem run_callF {f : Nat} [hf : TFun P f] (args : Array Value) (w : World) : (callFunc f args).run P w = .ok (.enter f args) w := by
  have h := hf.h
  unfold callQ at h
  split at h
  · rename_i fn hfn
    simp only [Bool.and_eq_true, Bool.not_eq_true'] at h
    cases hb : fn.body with
    | none => simp [hb] at h
    | some c =>
      have h1 : ¬ fn.name = "runtime.NumGoroutine" := by simpa using h.1
      simp [callFunc, hfn, h1, hb]
  · cases h
/-- Behind a call. -/
theorem SimG.called {m0 : GF} {m m' : Ghost} {w0 w w' : World} {a : Act} {h' : Heap} (k : SimG m0 w0 m s a w) (g1 : Gle m m') (g2 : Holds m' w') (g3 : Same w w') (g4 : HRel m' h' w') (g5 : Kept m s.h w m' h' w') : SimG m0 w0 m' { s with h := h' } a w' := by
  have hsz := k.same.size
  have hF : ∀ b, (∃ y ∈ s.h, y.blk = some b) → m0.2 b ∨ w0.heap.size ≤ b := fun b ⟨y, hy, hb⟩ => k.own y hy b hb
  exact
    { le := k.le.trans g1
      grow := fun b o e => by
        rcases g5.grow b o e with h | h | h
        · exact k.grow b o h
        · rcases hF b h with h | h <;> simp [h]
        · right; right; omega
      frame := fun b h1 h2 => (g5.frame b (by omega) (fun hy => by rcases hF b hy with h | h; exact h2 h; omega)).trans (k.frame b h1 h2)
      own := fun y hy b hb => by
        rcases g5.own y hy b hb with h | h
        · exact hF b h
        · right; omega
      holds := g2
      same := k.same.trans g3
      defers := k.defers
      size := k.size
      tmps := k.tmps.mono g1
      heap := g4 }
theorem step_of_calls {o : Oper} {f : Nat} {vs : List AV} (hr : ∀ (m0 : GF) (w0 : World) (m : Ghost) (a : Act) (w : World), SimG m0 w0 m s a w → ∃ us, RelL m vs us ∧ (execOp a.eval o).run P w = .ok (.enter f us.toArray) w)
    (hf : fits s o.dst = true) (hc : ACalls P f vs s.h (fun r h' => K (({ s with h := h' } : St).put o.dst r))) : Step P o s K := by
  intro m0 w0 a w ⟨m, hs⟩ Q
  obtain ⟨us, hus, hrun⟩ := hr m0 w0 m a w hs
  unfold Oper.wp
  rw [hrun]
  refine (hc m w us hs.holds hus hs.heap).mono ?_
  rintro e w' ⟨m', v, r, h', rfl, g1, g2, g3, g4, g5, g6, g7⟩
  exact ⟨_, g7, m', SimG.put (s := { s with h := h' }) (hs.called g1 g2 g3 g5 g6) hf g4⟩
theorem step_call {f : Nat} {args : Array Operand} {ats : Array Nat} {vs : List AV} [TFun P f] (hx : Evals s.t args.toList vs) (hf : fits s d = true) (hc : ACalls P f vs s.h (fun r h' => K (({ s with h := h' } : St).put d r))) :
    Step P ⟨d, .call { callee := .value (.func f), args := args, argTypes := ats }, ty, pos, af, gd⟩ s K :=
  step_of_calls (fun m0 w0 m a w hs => ⟨args.toList.map a.eval, hx.rel hs.tmps, by
    have e : (args.toList.map a.eval).toArray = args.map a.eval := by apply Array.ext'; simp
    rw [e]
    simp [execOp, resolve, Deferred.ofValue, Act.eval, invoke, run_callF]⟩) hf hc
/-- A function value called. -/
theorem step_call_clo {f : Nat} {args : Array Operand} {ats : Array Nat} {vs caps : List AV} [TFun P f] (hg : evalA s.t x = some (.clo (.func f) caps)) (hx : Evals s.t args.toList vs) (hf : fits s d = true) (hc : ACalls P f (vs ++ caps) s.h (fun r h' => K (({ s with h := h' } : St).put d r))) :
    Step P ⟨d, .call { callee := .value x, args := args, argTypes := ats }, ty, pos, af, gd⟩ s K :=
  step_of_calls (fun m0 w0 m a w hs => by
    have hg' := hs.tmps.eval hg
    simp only [Rel] at hg'
    obtain ⟨cs, hg', hcs⟩ := hg'
    refine ⟨args.toList.map a.eval ++ cs.toList, (hx.rel hs.tmps).append hcs, ?_⟩
    have e : (args.toList.map a.eval ++ cs.toList).toArray = args.map a.eval ++ cs := by apply Array.ext'; simp
    rw [e]
    simp [execOp, resolve, Deferred.ofValue, hg', invoke, run_callF]) hf hc
/-! ### A function's body -/
def number : Nat → List AV → List (Nat × AV)
  | _, [] => []
  | n, v :: r => (n, v) :: number (n + 1) r
theorem get_number : ∀ (l : List AV) (n i : Nat), get (number n l) i = if n ≤ i then l[i - n]? else none
  | [], n, i => by simp [number, get]
  | v :: r, n, i => by
    simp only [number]
    rw [get_eq, get_number r (n + 1) i]
    by_cases h : n = i
    · subst h; simp
    · rw [if_neg h]
      by_cases h2 : n ≤ i
      · rw [if_pos (by omega), if_pos h2]
        have : i - n = (i - (n + 1)) + 1 := by omega
        rw [this, List.getElem?_cons_succ]
      · rw [if_neg (by omega), if_neg h2]
inductive ResA (P : Program) (s : St) : List ResultVar → List AV → Prop
  | nil : ResA P s [] []
  | tmp {t : Nat} {v : AV} {rs : List ResultVar} {vs : List AV} (h : get s.t t = some v) (hr : ResA P s rs vs) : ResA P s (.tmp t :: rs) (v :: vs)
  | cell {t ty n b bt : Nat} {g : Bool} {l : List AV} {v : AV} {rs : List ResultVar} {vs : List AV} (hv : TVal P ty g n) (h : get s.t t = some (.val (.pointer (some ⟨b, 0, none⟩)))) (hb : OE.box b l bt ∈ s.h) (hl : loadA g n l 0 = some v) (hr : ResA P s rs vs) : ResA P s (.cell t ty :: rs) (v :: vs)
def tupA : List AV → AV
  | [x] => x
  | l => .tup l
def resOne (tmps : Array Value) : ResultVar → Sem Value
  | .tmp t => pure (tmps.getD t undef)
  | .cell c t => do loadVar t (← asAddr (tmps.getD c undef))
theorem ResA.run {rs : List ResultVar} {vs : List AV} (k : ResA P s rs vs) : ∀ {m0 : GF} {w0 : World} {m : Ghost} {a : Act} {w : World}, SimG m0 w0 m s a w → ∃ us, (rs.mapM (resOne a.tmps) : Sem (List Value)).run P w = .ok us w ∧ RelL m vs us := by
  induction k with
  | nil => intro m0 w0 m a w _; exact ⟨[], rfl, by simp [RelL]⟩
  | @tmp t v rs vs h _ ih =>
    intro m0 w0 m a w hs
    obtain ⟨us, h1, h2⟩ := ih hs
    obtain ⟨u, g1, g2⟩ := hs.tmps _ _ h
    refine ⟨u :: us, ?_, by simp only [RelL]; exact ⟨_, _, rfl, g2, h2⟩⟩
    have e : (resOne a.tmps (.tmp t)).run P w = .ok u w := by simp [resOne, g1]
    simp only [List.mapM_cons, Sem.run_bind, e, Result.andThen_ok, h1, Sem.run_pure]
  | @cell t ty n b bt g l v rs vs hv h hb hl _ ih =>
    intro m0 w0 m a w hs
    obtain ⟨us, h1, h2⟩ := ih hs
    obtain ⟨u, g1, g2⟩ := hs.tmps _ _ h
    simp only [Rel] at g2
    obtain ⟨rfl, _⟩ := g2
    obtain ⟨_, cs, q3, q4⟩ := hs.heap.2 _ hb
    obtain ⟨h6, h7⟩ := mk_rel q4 hl (valQ_spec hv.h).2.2
    refine ⟨_ :: us, ?_, by simp only [RelL]; exact ⟨_, _, rfl, h6, h2⟩⟩
    have e : (resOne a.tmps (.cell t ty)).run P w = .ok (mk g ((cs.toList.drop 0).take n)) w := by
      have := run_loadVar' (P := P) (off := 0) hv.h q3 (by simpa using h7)
      simp [resOne, g1, asAddr, this]
    simp only [List.mapM_cons, Sem.run_bind, e, Result.andThen_ok, h1, Sem.run_pure]
def Fini (P : Program) (rs : List ResultVar) (Q : AV → Heap → Prop) : Exit → St → Prop
  | .normal, s | .ret, s => ∃ vs h', ResA P s rs vs ∧ LeH s.h h' ∧ Q (tupA vs) h'
  | _, _ => False
theorem ACalls.intro {f : Nat} {fn : Func} {c : Code} {args : List AV} {Q : AV → Heap → Prop} (hf : P.funcs[f]? = some fn) (hb : fn.body = some c) {n : Nat} {rs : Array ResultVar} (hnt : fn.ntmps = n) (hrs : fn.results = rs) (hn : args.length ≤ n) (hw : W P c (Fini P rs.toList Q) ⟨n, number 0 args, h⟩) : ACalls P f args h Q := by
  subst hnt; subst hrs
  intro m w us hm hr hh
  refine calls_of_wp hf hb ?_
  have hus := hr.length
  have hsim : Sim (m, fun b => ∃ y ∈ h, y.blk = some b) w ⟨fn.ntmps, number 0 args, h⟩ { tmps := us.toArray ++ Array.replicate (fn.ntmps - us.toArray.size) undef, defers := [] } w := by
    refine ⟨m, ⟨Gle.refl m, fun b o e => .inl e, fun _ _ _ => rfl, fun x hx b hb => .inl ⟨x, hx, hb⟩, hm, Same.refl w, rfl, ?_, ?_, hh⟩⟩
    · simp; omega
    · intro i v hi
      rw [get_number] at hi
      simp only [Nat.zero_le, if_true, Nat.sub_zero] at hi
      obtain ⟨u, h1, h2⟩ := hr.at i v hi
      refine ⟨u, ?_, h2⟩
      have hlt := (List.getElem?_eq_some_iff.1 h1).1
      rw [Array.getElem?_append_left (by simpa using hlt)]
      simpa using h1
  refine wp_mono (hw _ _ _ _ hsim) ?_
  rintro e a' w' ⟨s', hq, m', hs'⟩
  have fin : ∀ (vs : List AV) (h' : Heap), ResA P s' fn.results.toList vs → LeH s'.h h' → Q (tupA vs) h' → a'.defers = [] ∧ ∃ v, (results fn a'.tmps).run P w' = .ok v w' ∧
      ∃ m' v_1 r h', Ending.returned v = .returned v_1 ∧ Gle m m' ∧ Holds m' w' ∧ Same w w' ∧ Rel m' r v_1 ∧ HRel m' h' w' ∧ Kept m h w m' h' w' ∧ Q r h' := by
    intro vs h' h1 h2 h3
    refine ⟨hs'.defers, ?_⟩
    obtain ⟨us', k1, k2⟩ := h1.run hs'
    have hvl := k2.length
    have hres : ∀ v, (if hh : us'.toArray.size = 1 then us'.toArray[0] else Value.tuple us'.toArray) = v → (results fn a'.tmps).run P w' = .ok v w' := by
      intro v hv
      have e : results fn a'.tmps = (do let vs ← fn.results.mapM (resOne a'.tmps); pure (if hh : vs.size = 1 then vs[0] else Value.tuple vs)) := rfl
      rw [e, Array.mapM_eq_mapM_toList]
      simp only [Sem.run_bind, Sem.run_map, k1, Result.andThen_ok, Sem.run_pure, hv]
    have hkept : Kept m h w m' h' w' := ⟨hs'.grow, hs'.frame, fun x hx b hb => by obtain ⟨y, g1, g2⟩ := h2.mem hx; exact hs'.own y g1 b (g2.trans hb)⟩
    by_cases h1' : us'.length = 1
    · obtain ⟨u, rfl⟩ := List.length_eq_one_iff.1 h1'
      obtain ⟨v, rfl⟩ := List.length_eq_one_iff.1 (hvl.symm.trans h1')
      simp only [RelL] at k2
      obtain ⟨c', r', e1, e2, e3⟩ := k2
      injection e1 with e1 _
      subst e1
      exact ⟨u, hres u rfl, m', u, v, h', rfl, hs'.le, hs'.holds, hs'.same, e2, h2.hrel hs'.heap, hkept, h3⟩
    · refine ⟨.tuple us'.toArray, hres _ (by rw [dif_neg (by simpa using h1')]), m', _, tupA vs, h', rfl, hs'.le, hs'.holds, hs'.same, ?_, h2.hrel hs'.heap, hkept, h3⟩
      have : tupA vs = .tup vs := by
        cases vs with
        | nil => rfl
        | cons v r => cases r with
          | nil => simp at hvl; omega
          | cons _ _ => rfl
      rw [this]
      simp only [Rel]
      exact ⟨_, rfl, by simpa using k2⟩
  cases e with
  | normal =>
    obtain ⟨vs, h', h1, h2, h3⟩ := hq
    exact fin vs h' h1 h2 h3
  | ret =>
    obtain ⟨vs, h', h1, h2, h3⟩ := hq
    exact fin vs h' h1 h2 h3
  | exit id => exact hq
  | goto l => exact hq
  | panic ch => exact hq.elim
  | outgrown => exact hq.elim
end
end Go.VM
