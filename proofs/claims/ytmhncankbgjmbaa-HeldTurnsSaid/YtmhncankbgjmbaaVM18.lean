/- Maps by their entries, whose order nobody sees. No condition. -/
import Derived.Test.YtmhncankbgjmbaaVM17
import Derived.MapKept
import Derived.Maps.RangeRun
namespace Go.VM
open Go
set_option linter.unusedVariables false
set_option linter.unusedSimpArgs false
class TMap (P : Program) (t : Nat) (kt et : outParam Nat) (kd : outParam IntKind) : Prop where
  h : P.underlying t = some (.map kt et)
  hk : P.underlying kt = some (.int kd)
def lkF {α : Type} (t : List (Int × α)) (i : Int) : Option α := (t.find? fun p => decide (p.1 = i)).map (·.2)
def putF {α : Type} (t : List (Int × α)) (i : Int) (a : α) : List (Int × α) := if (lkF t i).isSome then t.map (fun p => if p.1 = i then (i, a) else p) else t ++ [(i, a)]
def delF {α : Type} (t : List (Int × α)) (i : Int) : List (Int × α) := t.filter fun p => decide (p.1 ≠ i)
/-- A map that came, or was laid and is no longer written. -/
def mapV {α : Type} (kd : IntKind) (f : α → AV) (t : List (Int × α)) : AV := .mro (t.map fun p => .int kd p.1) (t.map fun p => f p.2)
def mpV {α : Type} (b : Nat) (kd : IntKind) (f : α → AV) (t : List (Int × α)) : OE := .mp b (t.map fun p => .int kd p.1) (t.map fun p => f p.2)
def lkV {α : Type} (f : α → AV) (z : AV) : Option α → AV
  | some a => f a
  | none => z
def vI (k : IntKind) (n : Int) : AV := .val (.int k n)
def vB (b : Bool) : AV := .val (.bool b)
theorem lkV_int (k : IntKind) (o : Option Int) : lkV (vI k) (.val (.int k 0)) o = .val (.int k (o.getD 0)) := by cases o <;> rfl
theorem lkV_bool (o : Option Bool) : lkV vB (.val (.bool false)) o = .val (.bool (o.getD false)) := by cases o <;> rfl
section
variable {α : Type} {kd : IntKind} {f : α → AV} {t : List (Int × α)} {m : Ghost} {es : Array MapEntry} {clk : Nat} {es' : List MapEntry}
theorem lkF_none {i : Int} : lkF t i = none ↔ ∀ p ∈ t, p.1 ≠ i := by
  unfold lkF
  rw [Option.map_eq_none_iff, List.find?_eq_none]
  simp
theorem lkF_some {i : Int} {a : α} (h : lkF t i = some a) : (i, a) ∈ t := by
  unfold lkF at h
  rw [Option.map_eq_some_iff] at h
  obtain ⟨p, h1, rfl⟩ := h
  have h2 := List.find?_some h1
  have h3 := List.mem_of_find?_eq_some h1
  simp at h2
  rw [← h2]; exact h3
theorem lkF_nodup {i : Int} {a : α} (hn : (t.map (·.1)).Nodup) (h : (i, a) ∈ t) : lkF t i = some a := by
  induction t with
  | nil => cases h
  | cons p r ih =>
    rw [List.map_cons, List.nodup_cons] at hn
    unfold lkF
    rw [List.find?_cons]
    rcases List.mem_cons.1 h with e | h'
    · subst e; simp
    · have : p.1 ≠ i := fun e => hn.1 (by rw [e]; exact List.mem_map.2 ⟨_, h', rfl⟩)
      rw [decide_eq_false this]
      exact ih hn.2 h'
/-- The entries as ours. -/
structure Ent (m : Ghost) (kd : IntKind) (f : α → AV) (t : List (Int × α)) (es : Array MapEntry) (clk : Nat) (es' : List MapEntry) : Prop where
  ok : MapOk es.toList clk es'
  ks : es'.map (·.key) = t.map fun p => .int kd p.1
  vs : RelL m (t.map fun p => f p.2) (es'.map (·.val))
theorem Ent.mono {m' : Ghost} (k : Ent m kd f t es clk es') (h : Gle m m') : Ent m' kd f t es clk es' := ⟨k.ok, k.ks, k.vs.mono h⟩
theorem Ent.len (k : Ent m kd f t es clk es') : es'.length = t.length := by have := congrArg List.length k.ks; simpa using this
theorem Ent.size (k : Ent m kd f t es clk es') : es.size = t.length := by rw [← k.len, k.ok.1.length_eq, Array.length_toList]
theorem Ent.at (k : Ent m kd f t es clk es') {j : Nat} {e : MapEntry} (h : es'[j]? = some e) : ∃ p, t[j]? = some p ∧ e.key = .int kd p.1 ∧ Rel m (f p.2) e.val := by
  have hj : j < t.length := by rw [← k.len]; exact (List.getElem?_eq_some_iff.1 h).1
  refine ⟨t[j], List.getElem?_eq_getElem hj, ?_, ?_⟩
  · have := congrArg (fun l => l[j]?) k.ks
    simp only [List.getElem?_map, h, List.getElem?_eq_getElem hj, Option.map_some] at this
    injection this
  · obtain ⟨c, h1, h2⟩ := k.vs.at j (f t[j].2) (by rw [List.getElem?_map, List.getElem?_eq_getElem hj]; rfl)
    rw [List.getElem?_map, h] at h1
    injection h1 with h1
    have h1 : e.val = c := h1
    rw [h1]; exact h2
theorem Ent.nodupk (k : Ent m kd f t es clk es') : (es'.map (·.key)).Nodup := ((k.ok.1.map _).nodup_iff).2 k.ok.2.2.2
theorem Ent.nodup (k : Ent m kd f t es clk es') : (t.map (·.1)).Nodup := by
  have := k.nodupk
  rw [k.ks] at this
  rw [List.Nodup, List.pairwise_map] at this ⊢
  exact this.imp fun h e => h (by rw [e])
theorem Ent.keys (k : Ent m kd f t es clk es') : ∀ x ∈ es.toList, MapKept.IsKey (.int kd) x.key := fun x hx => by
  have h1 : x ∈ es' := k.ok.1.mem_iff.2 hx
  obtain ⟨j, hj⟩ := List.mem_iff_getElem?.1 h1
  obtain ⟨p, _, h2, _⟩ := k.at hj
  rw [h2]; simp [MapKept.IsKey]
/-- The look-up, run. -/
theorem Ent.find (k : Ent m kd f t es clk es') (i : Int) : (Instr.findNow (.int kd) (.int kd i) es.toList 0 = some none ∧ lkF t i = none ∧ ∀ x ∈ es.toList, x.key ≠ .int kd i) ∨
    ∃ j e a, Instr.findNow (.int kd) (.int kd i) es.toList 0 = some (some (j, e.val)) ∧ es.toList[j]? = some e ∧ e.key = .int kd i ∧ lkF t i = some a ∧ Rel m (f a) e.val := by
  rcases MapKept.findNow_spec (d := .int kd) (k := .int kd i) (by simp [MapKept.IsKey]) es.toList 0 k.keys with ⟨h1, h2⟩ | ⟨j, e, h1, h2, h3⟩
  · refine .inl ⟨h1, lkF_none.2 fun p hp e => ?_, h2⟩
    have : Value.int kd i ∈ es'.map (·.key) := by rw [k.ks]; exact List.mem_map.2 ⟨p, hp, by rw [e]⟩
    obtain ⟨x, hx, hxk⟩ := List.mem_map.1 this
    exact h2 x (k.ok.1.mem_iff.1 hx) hxk
  · rw [Nat.zero_add] at h1
    have he : e ∈ es' := k.ok.1.mem_iff.2 (List.mem_of_getElem? h2)
    obtain ⟨j', hj'⟩ := List.mem_iff_getElem?.1 he
    obtain ⟨p, g1, g2, g3⟩ := k.at hj'
    rw [h3] at g2
    injection g2 with _ g2
    exact .inr ⟨j, e, p.2, h1, h2, h3, lkF_nodup k.nodup (by rw [g2]; exact List.mem_of_getElem? g1), g3⟩
end
theorem mro_cases {α : Type} {kd : IntKind} {f : α → AV} {t : List (Int × α)} {m : Ghost} {v : Value} (h : Rel m (mapV kd f t) v) : (v = .map none ∧ t = []) ∨ ∃ g es clk es', v = .map (some g) ∧ m g = some (.map es clk) ∧ Ent m kd f t es clk es' := by
  unfold mapV at h
  simp only [Rel] at h
  obtain ⟨r, rfl, h⟩ := h
  rcases h with ⟨rfl, h2, _⟩ | ⟨g, es, clk, es', rfl, k2, k3, k4, k5⟩
  · exact .inl ⟨rfl, by simpa using h2⟩
  · exact .inr ⟨g, es, clk, es', rfl, k2, k3, k4, k5⟩
theorem mp_cases {α : Type} {kd : IntKind} {f : α → AV} {t : List (Int × α)} {m : Ghost} {b : Nat} {w : World} (h : OERel m w (mpV b kd f t)) : ∃ es clk es', w.heap[b]? = some (.map es clk) ∧ Ent m kd f t es clk es' := by
  unfold mpV at h
  simp only [OERel] at h
  obtain ⟨es, clk, es', h0, h1, h2, h3⟩ := h
  exact ⟨es, clk, es', h0, h1, h2, h3⟩
theorem mp_mk {α : Type} {kd : IntKind} {f : α → AV} {t : List (Int × α)} {m : Ghost} {b : Nat} {w : World} {es : Array MapEntry} {clk : Nat} {es' : List MapEntry} (h0 : w.heap[b]? = some (.map es clk)) (k : Ent m kd f t es clk es') : OERel m w (mpV b kd f t) := by
  unfold mpV
  simp only [OERel]
  exact ⟨es, clk, es', h0, k.ok, k.ks, k.vs⟩
section
variable {P : Program} {w : World} {mt kt et : Nat} {kd : IntKind} {z : Value}
theorem run_look_nil (hm : P.underlying mt = some (.map kt et)) (hk : P.underlying kt = some (.int kd)) (hz : (zeroValue et).run P w = .ok z w) (i : Int) (c : Bool) :
    (Instr.lookup mt (.map none) (.int kd i) c).run P w = .ok (if c then .tuple #[z, .bool false] else z) w := by
  have h1 : Instr.findNow (.int kd) (.int kd i) [] 0 = some none := rfl
  simp [Instr.lookup, run_underlying hm, MapKept.run_checkKey hk (k := .int kd i) (by simp [MapKept.IsKey]), MapKept.run_findKey hk h1, Result.andThen, hz]
theorem run_look_none (hm : P.underlying mt = some (.map kt et)) (hk : P.underlying kt = some (.int kd)) (hz : (zeroValue et).run P w = .ok z w) {b : Nat} {es : Array MapEntry} {clk : Nat} (hb : w.heap[b]? = some (.map es clk)) {i : Int}
    (h1 : Instr.findNow (.int kd) (.int kd i) es.toList 0 = some none) (c : Bool) : (Instr.lookup mt (.map (some b)) (.int kd i) c).run P w = .ok (if c then .tuple #[z, .bool false] else z) w := by
  simp [Instr.lookup, run_underlying hm, MapKept.run_getObj_map hb, MapKept.run_checkKey hk (k := .int kd i) (by simp [MapKept.IsKey]), MapKept.run_findKey hk h1, Result.andThen, hz]
theorem run_look_some (hm : P.underlying mt = some (.map kt et)) (hk : P.underlying kt = some (.int kd)) {b : Nat} {es : Array MapEntry} {clk : Nat} (hb : w.heap[b]? = some (.map es clk)) {i : Int} {j : Nat} {v : Value}
    (h1 : Instr.findNow (.int kd) (.int kd i) es.toList 0 = some (some (j, v))) (c : Bool) : (Instr.lookup mt (.map (some b)) (.int kd i) c).run P w = .ok (if c then .tuple #[v, .bool true] else v) w := by
  simp [Instr.lookup, run_underlying hm, MapKept.run_getObj_map hb, MapKept.run_checkKey hk (k := .int kd i) (by simp [MapKept.IsKey]), MapKept.run_findKey hk h1, Result.andThen]
end
theorem zel_run {P : Program} {e : Nat} {z : AV} [hz : TZel P e z] : ∃ u, (∀ w, (zeroValue e).run P w = .ok u w) ∧ ∀ m, Rel m z u := by
  obtain ⟨i, u, h1, h2, h3, _⟩ := zelQ_spec hz.h
  exact ⟨u, fun w => by simp [zeroValue, typeInfo, h1, h2], h3⟩
section
variable {P : Program} {d : Option Nat} {ty : Nat} {pos : String} {af : Array Edge} {gd : Option (Nat × Bool)} {tm : List (Nat × AV)} {h : Heap} {x y : Operand} {mt kt et : Nat} {kd : IntKind} {z : AV} {α : Type} {f : α → AV} {t : List (Int × α)} {i : Int} {v : AV}
theorem pur_look_ro [hm : TMap P mt kt et kd] [hz : TZel P et z] (hx : evalA tm x = some (mapV kd f t)) (hy : evalA tm y = some (.val (.int kd i))) (hw : Wk (lkV f z (lkF t i)) v) : Pur P ⟨d, .lookup mt x y false, ty, pos, af, gd⟩ tm h v := fun m a w0 ht hh hr => by
  obtain ⟨u, hu1, hu2⟩ := zel_run (hz := hz)
  have e2 := eval_val ht hy
  rcases mro_cases (ht.eval hx) with ⟨e1, rfl⟩ | ⟨g, es, clk, es', e1, hg, k⟩
  · refine ⟨u, hw.rel (by simpa [lkF, lkV] using hu2 m), fun w _ _ => ?_⟩
    simp [execOp, e1, e2, run_look_nil hm.h hm.hk (hu1 w)]
  · rcases k.find i with ⟨h1, h2, _⟩ | ⟨j, e, b, h1, _, _, h2, h3⟩
    · refine ⟨u, hw.rel (by rw [h2]; exact hu2 m), fun w hw' _ => ?_⟩
      simp [execOp, e1, e2, run_look_none hm.h hm.hk (hu1 w) (hw' g _ hg) h1]
    · refine ⟨e.val, hw.rel (by rw [h2]; exact h3), fun w hw' _ => ?_⟩
      simp [execOp, e1, e2, run_look_some hm.h hm.hk (hw' g _ hg) h1]
theorem pur_look_ok_ro [hm : TMap P mt kt et kd] [hz : TZel P et z] (hx : evalA tm x = some (mapV kd f t)) (hy : evalA tm y = some (.val (.int kd i))) (hw : Wk (lkV f z (lkF t i)) v) : Pur P ⟨d, .lookup mt x y true, ty, pos, af, gd⟩ tm h (.tup [v, .val (.bool (lkF t i).isSome)]) := fun m a w0 ht hh hr => by
  obtain ⟨u, hu1, hu2⟩ := zel_run (hz := hz)
  have e2 := eval_val ht hy
  have mk : ∀ (u : Value) (b : Bool), Rel m v u → Rel m (.tup [v, .val (.bool b)]) (.tuple #[u, .bool b]) := fun u b h => by
    simp only [Rel]; exact ⟨_, rfl, by simp only [RelL]; exact ⟨_, _, rfl, h, _, _, rfl, rel_val rfl, rfl⟩⟩
  rcases mro_cases (ht.eval hx) with ⟨e1, rfl⟩ | ⟨g, es, clk, es', e1, hg, k⟩
  · refine ⟨_, mk u false (hw.rel (by simpa [lkF, lkV] using hu2 m)), fun w _ _ => ?_⟩
    simp [execOp, e1, e2, run_look_nil hm.h hm.hk (hu1 w)]
  · rcases k.find i with ⟨h1, h2, _⟩ | ⟨j, e, b, h1, _, _, h2, h3⟩
    · rw [h2] at hw ⊢
      refine ⟨_, mk u false (hw.rel (hu2 m)), fun w hw' _ => ?_⟩
      simp [execOp, e1, e2, run_look_none hm.h hm.hk (hu1 w) (hw' g _ hg) h1]
    · rw [h2] at hw ⊢
      refine ⟨_, mk e.val true (hw.rel h3), fun w hw' _ => ?_⟩
      simp [execOp, e1, e2, run_look_some hm.h hm.hk (hw' g _ hg) h1]
theorem pur_look_own {b : Nat} [hm : TMap P mt kt et kd] [hz : TZel P et z] (hx : evalA tm x = some (.val (.map (some b)))) (hb : mpV b kd f t ∈ h) (hy : evalA tm y = some (.val (.int kd i))) (hw : Wk (lkV f z (lkF t i)) v) : Pur P ⟨d, .lookup mt x y false, ty, pos, af, gd⟩ tm h v := fun m a w0 ht hh hr => by
  obtain ⟨u, hu1, hu2⟩ := zel_run (hz := hz)
  have e2 := eval_val ht hy
  have e1 := eval_val ht hx
  obtain ⟨es, clk, es', h0, k⟩ := mp_cases (hr.2 _ hb).2
  have hbk : (mpV b kd f t).blk = some b := rfl
  rcases k.find i with ⟨h1, h2, _⟩ | ⟨j, e, b', h1, _, _, h2, h3⟩
  · refine ⟨u, hw.rel (by rw [h2]; exact hu2 m), fun w _ ha => ?_⟩
    simp [execOp, e1, e2, run_look_none hm.h hm.hk (hu1 w) ((ha _ hb b hbk).trans h0) h1]
  · refine ⟨e.val, hw.rel (by rw [h2]; exact h3), fun w _ ha => ?_⟩
    simp [execOp, e1, e2, run_look_some hm.h hm.hk ((ha _ hb b hbk).trans h0) h1]
theorem pur_look_nil [hm : TMap P mt kt et kd] [hz : TZel P et z] (hx : evalA tm x = some (.val (.map none))) (hy : evalA tm y = some (.val (.int kd i))) : Pur P ⟨d, .lookup mt x y false, ty, pos, af, gd⟩ tm h z := fun m a w0 ht hh hr => by
  obtain ⟨u, hu1, hu2⟩ := zel_run (hz := hz)
  have e2 := eval_val ht hy
  have e1 := eval_val ht hx
  exact ⟨u, hu2 m, fun w _ _ => by simp [execOp, e1, e2, run_look_nil hm.h hm.hk (hu1 w)]⟩
theorem run_lenm (hm : P.underlying mt = some (.map kt et)) {b : Nat} {es : Array MapEntry} {clk ty : Nat} {w : World} (hb : w.heap[b]? = some (.map es clk)) : (Builtin.len_ #[mt] ty #[.map (some b)]).run P w = .ok (.int .i64 es.size) w := by
  simp [Builtin.len_, run_underlying hm, MapKept.run_getObj_map hb, goInt]
theorem run_lenm0 (hm : P.underlying mt = some (.map kt et)) {ty : Nat} {w : World} : (Builtin.len_ #[mt] ty #[.map none]).run P w = .ok (.int .i64 0) w := by
  simp [Builtin.len_, run_underlying hm, goInt]
theorem pur_lenm_ro [hm : TMap P mt kt et kd] (hx : evalA tm x = some (mapV kd f t)) : Pur P ⟨d, .call { callee := .builtin .len, args := #[x], argTypes := #[mt] }, ty, pos, af, gd⟩ tm h (.val (.int .i64 (t.length : Int))) := fun m a w0 ht hh hr => by
  refine ⟨_, rel_val rfl, fun w hw _ => ?_⟩
  rcases mro_cases (ht.eval hx) with ⟨e1, rfl⟩ | ⟨g, es, clk, es', e1, hg, k⟩
  · simp [execOp, resolve, invoke, builtin, e1, run_lenm0 hm.h]
  · simp [execOp, resolve, invoke, builtin, e1, run_lenm hm.h (hw g _ hg), k.size]
theorem pur_lenm_own {b : Nat} [hm : TMap P mt kt et kd] (hx : evalA tm x = some (.val (.map (some b)))) (hb : mpV b kd f t ∈ h) : Pur P ⟨d, .call { callee := .builtin .len, args := #[x], argTypes := #[mt] }, ty, pos, af, gd⟩ tm h (.val (.int .i64 (t.length : Int))) := fun m a w0 ht hh hr => by
  have e1 := eval_val ht hx
  obtain ⟨es, clk, es', h0, k⟩ := mp_cases (hr.2 _ hb).2
  refine ⟨_, rel_val rfl, fun w hw ha => ?_⟩
  simp [execOp, resolve, invoke, builtin, e1, run_lenm hm.h ((ha _ hb b rfl).trans h0), k.size]
end
/-! ### Steps -/
section
variable {α : Type} {kd : IntKind} {f : α → AV} {t : List (Int × α)} {m : Ghost} {es : Array MapEntry} {clk : Nat} {es' : List MapEntry}
theorem Ent.nil (m : Ghost) (kd : IntKind) (f : α → AV) : Ent m kd f [] #[] 0 [] := ⟨⟨by simp, by simp, by simp, by simp⟩, rfl, by simp [RelL]⟩
theorem Ent.push (k : Ent m kd f t es clk es') {i : Int} {a : α} {v : Value} (hn : ∀ x ∈ es.toList, x.key ≠ .int kd i) (hv : Rel m (f a) v) : Ent m kd f (t ++ [(i, a)]) (es.push { key := .int kd i, val := v, born := clk }) (clk + 1) (es' ++ [{ key := .int kd i, val := v, born := clk }]) := by
  obtain ⟨q1, q2, q3, q4⟩ := k.ok
  refine ⟨⟨by rw [Array.toList_push]; exact q1.append_right _, fun e he => ?_, ?_, ?_⟩, by rw [List.map_append, List.map_append, k.ks]; rfl, ?_⟩
  · rw [Array.toList_push, List.mem_append] at he
    rcases he with he | he
    · have := q2 e he; omega
    · simp at he; subst he; simp
  · rw [Array.toList_push, List.map_append, List.nodup_append]
    refine ⟨q3, by simp, fun x hx y hy e => ?_⟩
    obtain ⟨z, hz, rfl⟩ := List.mem_map.1 hx
    simp at hy
    have := q2 z hz; omega
  · rw [Array.toList_push, List.map_append, List.nodup_append]
    refine ⟨q4, by simp, fun x hx y hy e => ?_⟩
    obtain ⟨z, hz, rfl⟩ := List.mem_map.1 hx
    simp at hy
    exact hn z hz (by rw [e, hy])
  · rw [List.map_append, List.map_append]
    exact k.vs.append (by simp only [List.map_cons, List.map_nil, RelL]; exact ⟨_, _, rfl, hv, rfl⟩)
theorem modify_toList {es : Array MapEntry} {j : Nat} {e : MapEntry} (h : es.toList[j]? = some e) (g : MapEntry → MapEntry) : (es.modify j g).toList = es.toList.set j (g e) := by
  apply List.ext_getElem?
  intro q
  rw [Array.getElem?_toList, Array.getElem?_modify]
  by_cases hq : j = q
  · subst hq
    have hl : j < es.toList.length := (List.getElem?_eq_some_iff.1 h).1
    rw [if_pos rfl, List.getElem?_set_self hl]
    rw [Array.getElem?_toList] at h
    rw [h]; rfl
  · rw [if_neg hq, List.getElem?_set_ne hq, Array.getElem?_toList]
theorem set_map_eq {β γ : Type} {l : List β} {g : β → γ} {j : Nat} {x : β} (h : ∀ y, l[j]? = some y → g x = g y) : (l.set j x).map g = l.map g := by
  apply List.ext_getElem?
  intro q
  rw [List.getElem?_map, List.getElem?_map]
  by_cases hq : j = q
  · subst hq
    rcases Nat.lt_or_ge j l.length with hl | hl
    · rw [List.getElem?_set_self hl, List.getElem?_eq_getElem hl]
      exact congrArg some (h _ (List.getElem?_eq_getElem hl))
    · rw [List.getElem?_eq_none (by simpa using hl), List.getElem?_eq_none hl]
  · rw [List.getElem?_set_ne hq]
theorem erase_map {β γ : Type} (g : β → γ) (l : List β) (j : Nat) : (l.eraseIdx j).map g = (l.map g).eraseIdx j := by
  rw [List.eraseIdx_eq_take_drop_succ, List.eraseIdx_eq_take_drop_succ, List.map_append, List.map_take, List.map_drop]
theorem perm_set {l l' : List MapEntry} (h : l'.Perm l) {j j' : Nat} {e x : MapEntry} (h1 : l[j]? = some e) (h2 : l'[j']? = some e) : (l'.set j' x).Perm (l.set j x) := by
  have aux : ∀ {l : List MapEntry} {j : Nat}, l[j]? = some e → ∃ a b, l = a ++ e :: b ∧ l.set j x = a ++ x :: b := by
    intro l j h
    have hj := (List.getElem?_eq_some_iff.1 h).1
    refine ⟨l.take j, l.drop (j + 1), ?_, ?_⟩
    · have := List.getElem?_eq_some_iff.1 h
      rw [← this.2, ← List.drop_eq_getElem_cons hj, List.take_append_drop]
    · rw [List.set_eq_take_append_cons_drop, if_pos hj]
  obtain ⟨a, b, e1, e2⟩ := aux h1
  obtain ⟨a', b', e3, e4⟩ := aux h2
  rw [e2, e4]
  have : (e :: (a' ++ b')).Perm (e :: (a ++ b)) := by
    refine List.perm_middle.symm.trans (.trans ?_ List.perm_middle)
    rw [← e1, ← e3]; exact h
  exact List.perm_middle.trans ((((List.perm_cons e).1 this).cons x).trans List.perm_middle.symm)
theorem Ent.set (k : Ent m kd f t es clk es') {i : Int} {a : α} {v : Value} {j : Nat} {e : MapEntry} (hj : es.toList[j]? = some e) (he : e.key = .int kd i) (hv : Rel m (f a) v) :
    ∃ es2, Ent m kd f (t.map fun p => if p.1 = i then (i, a) else p) (es.modify j fun e => { e with key := .int kd i, val := v }) clk es2 := by
  obtain ⟨q1, q2, q3, q4⟩ := k.ok
  have hm : e ∈ es' := q1.mem_iff.2 (List.mem_of_getElem? hj)
  obtain ⟨j', hj'⟩ := List.mem_iff_getElem?.1 hm
  have hjl : j < es.toList.length := (List.getElem?_eq_some_iff.1 hj).1
  obtain ⟨p, g1, g2, g3⟩ := k.at hj'
  have hpi : p.1 = i := by rw [he] at g2; injection g2 with _ g2; exact g2.symm
  have hkey : ∀ y, es.toList[j]? = some y → ({ e with key := .int kd i, val := v } : MapEntry).key = y.key := fun y hy => by rw [hj] at hy; injection hy with hy; subst hy; exact he.symm
  have hborn : ∀ y, es.toList[j]? = some y → ({ e with key := .int kd i, val := v } : MapEntry).born = y.born := fun y hy => by rw [hj] at hy; injection hy with hy; subst hy; rfl
  have hjt : j' < t.length := (List.getElem?_eq_some_iff.1 g1).1
  have htm : (t.map fun p => if p.1 = i then (i, a) else p) = t.set j' (i, a) := by
    apply List.ext_getElem?
    intro q
    rw [List.getElem?_map]
    by_cases hq : j' = q
    · subst hq
      rw [g1, List.getElem?_set_self hjt]
      simp [hpi]
    · rw [List.getElem?_set_ne hq]
      cases hx : t[q]? with
      | none => rfl
      | some p' =>
        have hne : p'.1 ≠ i := fun e' => by
          have hnd := k.nodup
          have hql := (List.getElem?_eq_some_iff.1 hx).1
          have := List.getElem?_inj (l := t.map (·.1)) (i := j') (j := q) (by simpa using hjt) hnd |>.1 (by rw [List.getElem?_map, List.getElem?_map, g1, hx]; simp [hpi, e'])
          exact hq this
        simp [hne]
  refine ⟨es'.set j' { e with key := .int kd i, val := v }, ⟨?_, ?_, ?_, ?_⟩, ?_, ?_⟩
  · rw [modify_toList hj]; exact perm_set q1 hj hj'
  · intro x hx
    rw [modify_toList hj] at hx
    rcases List.mem_or_eq_of_mem_set hx with hx | rfl
    · exact q2 x hx
    · exact q2 e (List.mem_of_getElem? hj)
  · rw [modify_toList hj, set_map_eq hborn]; exact q3
  · rw [modify_toList hj, set_map_eq hkey]; exact q4
  · rw [htm, set_map_eq (fun y hy => by rw [hj'] at hy; injection hy with hy; subst hy; exact he.symm), k.ks, set_map_eq (fun y hy => by rw [g1] at hy; injection hy with hy; subst hy; rw [hpi])]
  · rw [htm, List.map_set, List.map_set]
    exact k.vs.set hv
theorem Ent.del (k : Ent m kd f t es clk es') {i : Int} {j : Nat} {e : MapEntry} (hj : es.toList[j]? = some e) (he : e.key = .int kd i) : ∃ es2, Ent m kd f (delF t i) (es.eraseIdxIfInBounds j) clk es2 := by
  obtain ⟨q1, q2, q3, q4⟩ := k.ok
  have hm : e ∈ es' := q1.mem_iff.2 (List.mem_of_getElem? hj)
  obtain ⟨j', hj'⟩ := List.mem_iff_getElem?.1 hm
  have hjl : j < es.toList.length := (List.getElem?_eq_some_iff.1 hj).1
  have hjl' : j' < es'.length := (List.getElem?_eq_some_iff.1 hj').1
  obtain ⟨p, g1, g2, g3⟩ := k.at hj'
  have hpi : p.1 = i := by rw [he] at g2; injection g2 with _ g2; exact g2.symm
  have hjt : j' < t.length := (List.getElem?_eq_some_iff.1 g1).1
  have hle : (es.eraseIdxIfInBounds j).toList = es.toList.eraseIdx j := by simp [Array.eraseIdxIfInBounds, show j < es.size by simpa using hjl]
  have aux : ∀ {β : Type} (l : List β) (j : Nat) (x : β), l[j]? = some x → (x :: l.eraseIdx j).Perm l := by
    intro β l j x h
    have hl := (List.getElem?_eq_some_iff.1 h).1
    rw [List.eraseIdx_eq_take_drop_succ]
    refine List.perm_middle.symm.trans ?_
    rw [← (List.getElem?_eq_some_iff.1 h).2, ← List.drop_eq_getElem_cons hl, List.take_append_drop]
  have hsub : ∀ {β : Type} (l : List β) (j : Nat), (l.eraseIdx j).Sublist l := fun l j => List.eraseIdx_sublist ..
  have hdel : delF t i = t.eraseIdx j' := by
    unfold delF
    have hs : t = t.take j' ++ p :: t.drop (j' + 1) := by rw [← (List.getElem?_eq_some_iff.1 g1).2, ← List.drop_eq_getElem_cons hjt, List.take_append_drop]
    have hnd := k.nodup
    rw [List.eraseIdx_eq_take_drop_succ]
    conv => lhs; rw [hs]
    rw [List.filter_append, List.filter_cons, if_neg (by simp [hpi])]
    rw [hs, List.map_append, List.map_cons, List.nodup_append, List.nodup_cons] at hnd
    congr 1
    · exact List.filter_eq_self.2 fun x hx => by
        have := hnd.2.2 x.1 (List.mem_map_of_mem hx) p.1 (List.mem_cons_self ..)
        rw [hpi] at this
        simpa using this
    · exact List.filter_eq_self.2 fun x hx => by
        have : x.1 ≠ p.1 := fun e => hnd.2.1.1 (by rw [← e]; exact List.mem_map_of_mem hx)
        rw [hpi] at this
        simpa using this
  refine ⟨es'.eraseIdx j', ⟨?_, ?_, ?_, ?_⟩, ?_, ?_⟩
  · rw [hle]
    exact (List.perm_cons e).1 ((aux es' j' e hj').trans (q1.trans (aux es.toList j e hj).symm))
  · intro x hx
    rw [hle] at hx
    exact q2 x ((hsub _ _).subset hx)
  · rw [hle]; exact ((hsub es.toList j).map _).nodup q3
  · rw [hle]; exact ((hsub es.toList j).map _).nodup q4
  · rw [hdel, erase_map, erase_map, k.ks]
  · rw [hdel, erase_map, erase_map, List.eraseIdx_eq_take_drop_succ, List.eraseIdx_eq_take_drop_succ]
    exact (k.vs.take _).append (k.vs.drop _)
end
section
variable {P : Program} {d : Option Nat} {ty : Nat} {pos : String} {af : Array Edge} {gd : Option (Nat × Bool)} {x y z : Operand} {mt kt et : Nat} {kd : IntKind} {α : Type} {f : α → AV} {t : List (Int × α)} {i : Int} {v : AV} {s : St} {K : St → Prop}
theorem step_makeMap {o : Option Operand} [hm : TMap P mt kt et kd] (ho : ∀ q, o = some q → ∃ k n, evalA s.t q = some (.val (.int k n))) (hf : fits s d = true) (f : α → AV)
    (hK : ∀ b, K (({ s with h := mpV b kd f [] :: s.h } : St).put d (.val (.map (some b))))) : Step P ⟨d, .makeMap mt o, ty, pos, af, gd⟩ s K := by
  intro m0 w0 a w ⟨m, hs⟩ Q
  unfold Oper.wp
  have hr : (execOp a.eval ⟨d, .makeMap mt o, ty, pos, af, gd⟩).run P w = .ok (.value (.map (some w.heap.size))) (w.alloc (.map #[] 0)) := by
    cases o with
    | none => rfl
    | some q =>
      obtain ⟨k, n, hq⟩ := ho q rfl
      simp [execOp, Instr.makeMap, newObj, eval_val hs.tmps hq, run_underlying hm.h, asInt]
      rfl
  rw [hr]
  have hx : OERel m (w.alloc (.map #[] 0)) (mpV w.heap.size kd f []) := mp_mk (heap_new _ _) (Ent.nil m kd f)
  exact ⟨_, hK w.heap.size, m, SimG.put (s := { s with h := _ :: s.h }) (hs.new_ (Same.alloc w _) (fun b hb => heap_old w _ b hb) hx (fun b hb => by injection hb with hb; omega)) hf (rel_val rfl)⟩
theorem heap_set_at {w : World} {b : Nat} {o o' : Obj} (hb : w.heap[b]? = some o) : ({ w with heap := w.heap.setIfInBounds b o' } : World).heap[b]? = some o' := by
  have := (Array.getElem?_eq_some_iff.1 hb).1
  simp [this]
theorem heap_set_ne {w : World} {b b' : Nat} {o' : Obj} (h : b' ≠ b) : ({ w with heap := w.heap.setIfInBounds b o' } : World).heap[b']? = w.heap[b']? := by
  simp [Array.getElem?_setIfInBounds_ne (Ne.symm h)]
theorem same_set (w : World) (b : Nat) (o' : Obj) : Same w { w with heap := w.heap.setIfInBounds b o' } := ⟨rfl, rfl, rfl, by simp⟩
/-- An owned block's object is another one. -/
theorem SimG.turn {m0 : GF} {w0 w : World} {m : Ghost} {a : Act} {x x' : OE} {h' : Heap} (k : SimG m0 w0 m s a w) (u : Up s.h x x' h') {b : Nat} {o o' : Obj} (hb : w.heap[b]? = some o) (hx : x.blk = some b) (hx' : x'.blk = some b)
    (hr : OERel m { w with heap := w.heap.setIfInBounds b o' } x') : SimG m0 w0 m { s with h := h' } a { w with heap := w.heap.setIfInBounds b o' } :=
  k.up u (same_set w b o') (fun b' o1 e => by
      by_cases he : b' = b
      · subst he
        rw [(k.heap.2 x u.old).1 b' hx] at e; cases e
      · exact heap_set_ne he)
    (fun b' _ hne => heap_set_ne (fun e => hne (by rw [hx, e])))
    hr (fun b' hb' => .inl (by rw [hx]; rw [hx'] at hb'; exact hb'))
theorem step_mapUpdate {b : Nat} {a : α} {v' : AV} [hm : TMap P mt kt et kd] (hx : evalA s.t x = some (.val (.map (some b)))) (hy : evalA s.t y = some (.val (.int kd i))) (hz : evalA s.t z = some v') (hv : Wk v' (f a)) {h' : Heap} (hu : Up s.h (mpV b kd f t) (mpV b kd f (putF t i a)) h')
    (hK : K { s with h := h' }) : Step P ⟨none, .mapUpdate mt x y z, ty, pos, af, gd⟩ s K := by
  intro m0 w0 ac w ⟨m, hs⟩ Q
  obtain ⟨es, clk, es', h0, k⟩ := mp_cases (hs.heap.2 _ hu.old).2
  have e1 := eval_val hs.tmps hx
  have e2 := eval_val hs.tmps hy
  have hr := hv.rel (hs.tmps.eval hz)
  unfold Oper.wp
  rcases k.find i with ⟨h1, h2, h3⟩ | ⟨j, e, a', h1, h2, h3, h4, h5⟩
  · have hrun : (execOp ac.eval ⟨none, .mapUpdate mt x y z, ty, pos, af, gd⟩).run P w = .ok .skip { w with heap := w.heap.setIfInBounds b (.map (es.push { key := .int kd i, val := ac.eval z, born := clk }) (clk + 1)) } := by
      simp [execOp, Instr.mapUpdate, e1, e2, run_underlying hm.h, MapKept.run_getObj_map h0, MapKept.run_checkKey hm.hk (k := .int kd i) (by simp [MapKept.IsKey]), MapKept.run_findKey hm.hk h1, MapKept.run_setObj_map _ h0, Result.andThen]
    rw [hrun]
    refine ⟨_, hK, m, SimG.turn hs hu h0 rfl rfl ?_⟩
    unfold putF
    rw [h2]
    exact mp_mk (heap_set_at h0) (k.push h3 hr)
  · have hjs : es[j]? = some e := by rw [← Array.getElem?_toList]; exact h2
    have hrun : (execOp ac.eval ⟨none, .mapUpdate mt x y z, ty, pos, af, gd⟩).run P w = .ok .skip { w with heap := w.heap.setIfInBounds b (.map (es.modify j fun e => { e with key := .int kd i, val := ac.eval z }) clk) } := by
      simp [execOp, Instr.mapUpdate, e1, e2, run_underlying hm.h, MapKept.run_getObj_map h0, MapKept.run_checkKey hm.hk (k := .int kd i) (by simp [MapKept.IsKey]), MapKept.run_findKey hm.hk h1, MapKept.run_setObj_map _ h0, Result.andThen, hjs, h3, MapKept.run_keyThatStays (d := .int kd) (k := .int kd i) (by simp [MapKept.IsKey])]
    rw [hrun]
    refine ⟨_, hK, m, SimG.turn hs hu h0 rfl rfl ?_⟩
    unfold putF
    rw [h4]
    obtain ⟨es2, k2⟩ := k.set h2 h3 hr
    exact mp_mk (heap_set_at h0) k2
theorem step_delete {b : Nat} {kty : Nat} [hm : TMap P mt kt et kd] (hx : evalA s.t x = some (.val (.map (some b)))) (hy : evalA s.t y = some (.val (.int kd i))) {h' : Heap} (hu : Up s.h (mpV b kd f t) (mpV b kd f (delF t i)) h')
    (hf : fits s d = true) (hK : K (({ s with h := h' } : St).put d (.tup []))) : Step P ⟨d, .call { callee := .builtin .delete, args := #[x, y], argTypes := #[mt, kty] }, ty, pos, af, gd⟩ s K := by
  intro m0 w0 ac w ⟨m, hs⟩ Q
  obtain ⟨es, clk, es', h0, k⟩ := mp_cases (hs.heap.2 _ hu.old).2
  have e1 := eval_val hs.tmps hx
  have e2 := eval_val hs.tmps hy
  unfold Oper.wp
  rcases k.find i with ⟨h1, h2, h3⟩ | ⟨j, e, a', h1, h2, h3, h4, h5⟩
  · have hrun : (execOp ac.eval ⟨d, .call { callee := .builtin .delete, args := #[x, y], argTypes := #[mt, kty] }, ty, pos, af, gd⟩).run P w = .ok (.value undef) { w with heap := w.heap.setIfInBounds b (.map es clk) } := by
      simp [execOp, resolve, invoke, builtin, Builtin.delete_, e1, e2, run_underlying hm.h, MapKept.run_getObj_map h0, MapKept.run_checkKey hm.hk (k := .int kd i) (by simp [MapKept.IsKey]), MapKept.run_findKey hm.hk h1, MapKept.run_setObj_map _ h0, Result.andThen]
      rfl
    rw [hrun]
    refine ⟨_, hK, m, SimG.put (s := { s with h := h' }) (SimG.turn hs hu h0 rfl rfl ?_) hf rel_undef⟩
    have : delF t i = t := List.filter_eq_self.2 fun p hp => by simpa using lkF_none.1 h2 p hp
    rw [this]
    exact mp_mk (heap_set_at h0) k
  · have hrun : (execOp ac.eval ⟨d, .call { callee := .builtin .delete, args := #[x, y], argTypes := #[mt, kty] }, ty, pos, af, gd⟩).run P w = .ok (.value undef) { w with heap := w.heap.setIfInBounds b (.map (es.eraseIdxIfInBounds j) clk) } := by
      simp [execOp, resolve, invoke, builtin, Builtin.delete_, e1, e2, run_underlying hm.h, MapKept.run_getObj_map h0, MapKept.run_checkKey hm.hk (k := .int kd i) (by simp [MapKept.IsKey]), MapKept.run_findKey hm.hk h1, MapKept.run_setObj_map _ h0, Result.andThen]
      rfl
    rw [hrun]
    refine ⟨_, hK, m, SimG.put (s := { s with h := h' }) (SimG.turn hs hu h0 rfl rfl ?_) hf rel_undef⟩
    obtain ⟨es2, k2⟩ := k.del h2 h3
    exact mp_mk (heap_set_at h0) k2
end
end Go.VM
