/- A call of yield in a region that draws its order. No condition. -/
import Derived.Test.YtdknjjgmmmmfjaaU4
namespace Go.VM
open Go
set_option linter.unusedVariables false
set_option linter.unusedSimpArgs false
section
variable {ro : Option Nat} {P : Program} {ops : Array Oper} {K : St → Prop} {n : Nat} {hro : Heap} {todo todo' : List Nat} {t : List (Nat × AV)} {h : Heap} {oi : Oper} {i d : Nat} {v : AV}
/-- EOp with all that yields, too. -/
def EOpI (ro : Option Nat) (P : Program) (ops : Array Oper) (n i : Nat) (tr : List (Nat × AV)) (hro h : Heap) (R : AV → Heap → Prop) : Prop :=
  (∀ d, dstAt ops i = some d → d < n) ∧ ∀ m0 w0 m a w, SimG m0 w0 m ⟨n, tr, hro ++ h⟩ a w → ∀ Q, wpOpIn (FR ro) 1 P ops Q i (fun a' w' => ∃ v h', R v h' ∧ Out n m0 w0 m a (dstAt ops i) (hro ++ h') v a' w') a w
theorem DR.coreI (hok : okR ops = true) (h1 : todo = [] → K ⟨n, t, hro ++ h⟩)
    (h2 : ∀ i ∈ todo, rdy ops todo i = true → ∃ R, EOpI ro P ops n i (restr (readsAt ops i) t) hro h R ∧ ∀ v h', R v h' → DR ro P ops K n hro (todo.filter (fun j => !Nat.beq j i)) (tadd (dstAt ops i) v t) h') : DR ro P ops K n hro todo t h := by
  intro m0 w0 m a w act pend fuel c hf
  induction fuel generalizing m a w act pend with
  | zero =>
    have hno : ∀ i, act.getD i true ≠ false := fun i hi => by
      have := left_lt (n := ops.size) c.sz hi; omega
    have hp : pend = [] := by
      cases pend with
      | nil => rfl
      | cons p r => exact absurd (c.un p (by simp)) (hno _)
    subst hp
    have ht : todo = [] := by
      cases todo with
      | nil => rfl
      | cons i r => exact absurd ((c.part i (c.tod i (by simp))).1 (by simp)).1 (hno _)
    refine ⟨?_, rfl, _, h1 ht, m, c.base.with fun x v hv => c.i2 x v hv (by simp)⟩
    cases hr : Region.ready .any ops act with
    | nil => rfl
    | cons i r => exact absurd (mem_ready.1 (hr ▸ List.mem_cons_self ..)).1 (hno i)
  | succ fuel ih =>
    refine ⟨fun hr => ?_, fun i hi => ?_⟩
    · have hp : pend = [] := by
        cases hp : pend with
        | nil => rfl
        | cons p r =>
          obtain ⟨q, _, hq⟩ := c.some_ready hok (by simp [hp])
          rw [hr] at hq; cases hq
      subst hp
      have ht : todo = [] := by
        cases ht : todo with
        | nil => rfl
        | cons i0 r0 =>
          exfalso
          obtain ⟨x, hx, hmin⟩ := min_of todo (by simp [ht])
          have hl := c.tod x hx
          obtain ⟨o, ho⟩ : ∃ o, ops[x]? = some o := ⟨_, Array.getElem?_eq_getElem hl⟩
          have : x ∈ Region.ready .any ops act := by
            refine mem_ready.2 ⟨((c.part x hl).1 hx).1, o, ho, fun e he hb => ?_⟩
            have hlt := (okR_spec hok ho).1 e he hb
            cases ha : act.getD e.on false with
            | true => rfl
            | false =>
              exfalso
              have := hmin e.on ((c.part e.on (by omega)).2 ⟨(act_tf (by rw [c.sz]; omega)).2 (by rw [ha]; simp), by simp⟩)
              omega
          rw [hr] at this; cases this
      exact ⟨rfl, _, h1 ht, m, c.base.with fun x v hv => c.i2 x v hv (by simp)⟩
    · have h0 := (mem_ready.1 hi).1
      have hlt := act_lt h0
      have hleft := left_lt (n := ops.size) c.sz h0
      by_cases hp : ∃ p ∈ pend, p.1 = i
      · obtain ⟨p, hp, rfl⟩ := hp
        obtain ⟨l, r, hlr⟩ := split_of hp
        refine wpO_in hok (wpO_mono ?_ (c.perform hok hlr hi _))
        rintro a' w' ⟨m', c'⟩
        exact ih _ _ _ _ _ c' (by omega)
      · have hp : ∀ p ∈ pend, p.1 ≠ i := fun p hpp e => hp ⟨p, hpp, e⟩
        obtain ⟨ht, hrd⟩ := c.ready_v hi hp
        obtain ⟨R, ⟨hd, he⟩, hk⟩ := h2 i ht hrd
        have hil : i < ops.size := by rw [← c.sz]; exact hlt
        obtain ⟨oi, hoi⟩ : ∃ o, ops[i]? = some o := ⟨_, Array.getElem?_eq_getElem hil⟩
        have hra : readsAt ops i = readsOf ops oi := by unfold readsAt; rw [hoi]
        have hdst : ∀ {x}, dstAt ops i = some x → oi.dst = some x := fun h => by unfold dstAt at h; rw [hoi] at h; exact h
        have htr : TRel m (restr (readsAt ops i) t) a.tmps := fun x v hv => by
          obtain ⟨q1, q2⟩ := get_restr_some hv
          refine c.i2 x v q2 fun p hpp hx => ?_
          rw [hra] at q1
          rcases ((okR_spec hok hoi).2 p.1 x (hp p hpp) hx).2 q1 with ha | ha
          · exact c.not_act hpp (c.anc_act hi ha (hp p hpp))
          · exact ((c.downV.anc (c.listed hpp) ha).2) ht
        refine wpOpIn_mono ?_ (he m0 w0 m a w (c.base.with htr) _)
        rintro a' w' ⟨v, h', hR, m', u, g1, g2, g3, g4⟩
        refine hk v h' hR m0 w0 m' a' w' (act.setIfInBounds i true) pend fuel ?_ (by omega)
        have hpx : ∀ p ∈ pend, ∀ x, x ∈ readsAt ops p.1 → dstAt ops i ≠ some x := by
          intro p hpp x hx hdx
          unfold readsAt at hx
          cases ho : ops[p.1]? with
          | none => rw [ho] at hx; cases hx
          | some oq =>
            rw [ho] at hx
            rcases ((okR_spec hok ho).2 i x (Ne.symm (hp p hpp)) hdx).2 hx with ha | ha
            · exact (c.downV.anc (c.listed hpp) ha).2 ht
            · exact c.not_act hpp (c.anc_act hi ha (hp p hpp))
        have hdd : ∀ p ∈ pend, ∀ x, dstAt ops p.1 = some x → dstAt ops i ≠ some x := fun p hpp x hx hdx =>
          ((okR_spec hok hoi).2 p.1 x (hp p hpp) hx).1 (hdst hdx)
        have hget : ∀ x, dstAt ops i ≠ some x → get (tadd (dstAt ops i) v t) x = get t x := fun x hx => by
          cases hd : dstAt ops i with
          | none => rfl
          | some d => simp only [tadd]; rw [get_eq, if_neg (fun e => hx (by rw [hd, e]))]
        have hmemf : ∀ j, j ∈ todo.filter (fun j => !Nat.beq j i) ↔ j ∈ todo ∧ j ≠ i := fun j => by
          rw [List.mem_filter]
          cases hb : Nat.beq j i
          · simp; intro _ e; subst e; simp at hb
          · simp; intro _; exact Nat.eq_of_beq_eq_true hb
        exact
          { base := g4
            sz := by rw [Array.size_setIfInBounds]; exact c.sz
            part := fun j hj => by
              rw [hmemf, c.part j hj, set_false hlt]
              constructor
              · rintro ⟨⟨q1, q2⟩, q3⟩; exact ⟨⟨q1, Ne.symm q3⟩, q2⟩
              · rintro ⟨⟨q1, q3⟩, q2⟩; exact ⟨⟨q1, q2⟩, Ne.symm q3⟩
            tod := fun j hj => c.tod j ((hmemf j).1 hj).1
            un := fun q hq => (set_false hlt).2 ⟨c.un q hq, Ne.symm (hp q hq)⟩
            nd := c.nd
            downV := fun j oj hj hl e hee hb => by
              refine ⟨?_, fun hin => ?_⟩
              · have := (okR_spec hok hj).1 e hee hb; omega
              · obtain ⟨k1, k2⟩ := (hmemf _).1 hin
                by_cases hji : j = i
                · subst hji
                  rw [hoi] at hj; injection hj with hj; subst hj
                  obtain ⟨_, o', ho', hall⟩ := mem_ready.1 hi
                  rw [hoi] at ho'; injection ho' with ho'; subst ho'
                  have h5 := hall e hee hb
                  have h6 := c.tod _ k1
                  exact (act_tf (by rw [c.sz]; exact h6)).1 ((c.part _ h6).1 k1).1 h5
                · exact (c.downV j oj hj ⟨hl.1, fun hjt => hl.2 ((hmemf j).2 ⟨hjt, hji⟩)⟩ e hee hb).2 k1
            downA := c.down_add hi
            ev := fun q hq => ⟨(c.ev q hq).1, fun m0 w0 m2 a w h g => (c.ev q hq).2 m0 w0 m2 a w h (g1.trans g)⟩
            evV := fun q hq hv => ⟨(c.evV q hq hv).1, fun m0 w0 m2 a w h g => (c.evV q hq hv).2 m0 w0 m2 a w h (g1.trans g)⟩
            i2 := fun x v' hv hq => by
              rw [g2]
              by_cases hx : dstAt ops i = some x
              · rw [hx] at hv ⊢
                simp only [tadd] at hv
                rw [get_eq, if_pos rfl] at hv
                injection hv with hv; subst hv
                exact ⟨u, c.tmp_put (hd x hx), g3⟩
              · rw [hget x hx] at hv
                obtain ⟨u', q1, q2⟩ := c.i2 x v' hv hq
                exact ⟨u', by rw [tmp_other hx]; exact q1, q2.mono g1⟩
            i3 := fun q hq x v' hv hw => by
              obtain ⟨u', q1, q2⟩ := c.i3 q hq x v' hv hw
              have hx := hpx q hq x (c.i3r q hq x v' hv)
              exact ⟨u', by rw [g2, tmp_other hx]; exact q1, q2.mono g1⟩
            i3r := c.i3r
            i4 := fun q hq x hx => by rw [hget x (hdd q hq x hx)]; exact c.i4 q hq x hx
            i5 := c.i5 }
/-- A call of yield: the only one that may come up. -/
theorem R2.Y {x : Operand} {args : Array Operand} {ats : Array Nat} {l ty : Nat} {pos : String} {af : Array Edge} {gd : Option (Nat × Bool)} {vs : List AV}
    (hc : Yields P l vs h (fun b h' => R2 none P ops K n hro todo ((d, .val (.bool b)) :: t) h'))
    (hi : ops[i]? = some ⟨some d, .call { callee := .value x, args := args, argTypes := ats }, ty, pos, af, gd⟩ := by rfl)
    (hx : evalA (restr (readsOf ops ⟨some d, .call { callee := .value x, args := args, argTypes := ats }, ty, pos, af, gd⟩) t) x = some (.val (.func (.yield l) #[] #[])) := by rfl)
    (hv : Evals (restr (readsOf ops ⟨some d, .call { callee := .value x, args := args, argTypes := ats }, ty, pos, af, gd⟩) t) args.toList vs := by (repeat (first | exact Evals.nil | (apply Evals.cons; rfl))))
    (hw : Wanted ops (restr (readsOf ops ⟨some d, .call { callee := .value x, args := args, argTypes := ats }, ty, pos, af, gd⟩) t) ⟨some d, .call { callee := .value x, args := args, argTypes := ats }, ty, pos, af, gd⟩ true := by first | exact wanted_n rfl | exact wanted_p rfl rfl rfl (by first | rfl | exact decide_eq_true (by assumption) | exact decide_eq_false (by assumption) | (simp; done) | (simp; omega) | fail) | fail)
    (hr : (i :: todo).filter (rdy ops (i :: todo)) = [i] := by decide +kernel) (hn : Nat.blt d n = true := by rfl) (hni : inL todo i = false := by rfl) : R2 none P ops K n hro (i :: todo) t h := by
  refine .mk fun hok => DR.coreI hok (fun e => by cases e) ?_
  intro j hj hrj
  · have := only_spec hr j hj hrj; subst this
    rw [readsAt_eq hi]
    refine ⟨fun v h' => ∃ b, v = .val (.bool b) ∧ R2 none P ops K n hro todo ((d, .val (.bool b)) :: t) h', ⟨fun d' hd' => ?_, fun m0 w0 m a w hs Q => ?_⟩, fun v h' hv => ?_⟩
    · rw [dstAt_eq hi] at hd'; injection hd' with e; subst e; exact Nat.le_of_ble_eq_true hn
    · unfold wpOpIn
      simp only [hi]
      rw [if_pos (hw.spec hs.tmps)]
      unfold Oper.wpIn
      refine ⟨fun _ _ => trivial, ?_⟩
      rw [Oper.semAt_eq _ _ _ (by intro c e; cases e)]
      obtain ⟨fn, tmps, assign, body, hrun, hround⟩ := (hc.beside hro) m w _ hs.holds (hv.rel hs.tmps) hs.heap
      have e1 : (args.toList.map a.eval).toArray = args.map a.eval := by apply Array.ext'; simp
      rw [e1] at hrun
      have e2 : (execOp a.eval (⟨some d, .call { callee := .value x, args := args, argTypes := ats }, ty, pos, af, gd⟩ : Oper)).run P w = .ok (.round l fn tmps assign body) w := by
        have hev := eval_val hs.tmps hx
        simp [execOp, resolve, Deferred.ofValue, hev, invoke, hrun]
      rw [e2]
      refine ⟨fun q => (by cases q), hround.mono ?_⟩
      rintro e w' ⟨m', b, h', rfl, g1, h1, hk, rfl⟩
      rw [dstAt_eq hi]
      exact ⟨.val (.bool b), h1, ⟨b, rfl, hk⟩, m', .bool b, g1.le, rfl, rel_val rfl, (SimG.put (dst := some d) (hs.aft g1) hn (rel_val rfl)).bare⟩
    · obtain ⟨b, rfl, hk⟩ := hv
      rw [dstAt_eq hi]
      exact (hk.go hok).congr (mem_filter_ne hni)
end
end Go.VM
namespace Go.VM
open Go
section
variable {P : Program} {tm : List (Nat × AV)} {h : Heap} {d : Option Nat} {x y : Operand} {ty : TypeId} {pos : String} {af : Array Edge} {gd : Option (Nat × Bool)}
/-- The place of an element of an array that lies in a slice's element. -/
theorem pur_index_arr_rq {xt nn e kk j o q : Nat} {g : Bool} {l : List AV} {kd : IntKind} {i : Int} [ha : TArr P xt nn e 1 g] (hx : evalA tm x = some (.rp kk l j o)) (hy : evalA tm y = some (.val (.int kd i))) (hi : i = (q : Int)) (hq : q < nn) :
    PurV P ⟨d, .indexAddr xt x y, ty, pos, af, gd⟩ tm h (.rp kk l j (o + q)) := fun m a w0 ht g1 g2 => by
  have hx := ht.eval hx
  simp only [Rel] at hx
  obtain ⟨b, o', hx, hj, hw⟩ := hx
  refine ⟨.pointer (some ⟨b, o' + (j * kk + (o + q)), none⟩), by simp only [Rel]; exact ⟨b, o', rfl, hj, hw⟩, fun w => ?_⟩
  subst hi
  have : (q : Int) < (nn : Int) := by omega
  simp [execOp, hx, eval_val ht hy, Instr.indexAt, asIntOf, run_underlying ha.h, Instr.sureAddr, hq, run_sizeOf ha.v, add_mk', Nat.add_assoc]
end
end Go.VM
