import Derived.Test.YtkpbbiknhhmfiaaU3
import Derived.Laws.StructEq
import Derived.RangeFuncSeq
import Derived.RangeFuncRecord
/- Structs of numbers alone: == and !=. No condition. -/
namespace Go.VM
open Go
set_option linter.unusedVariables false
set_option linter.unusedSimpArgs false
def flatI (P : Program) : Nat → List Field → Bool
  | _, [] => true
  | i, f :: fs => !(f.name == "_") && (Nat.beq f.offset i && ((match valQ P f.type with | some (false, _) => true | _ => false) && ((match P.underlying f.type with | some (.int _) => true | _ => false) && flatI P (i + 1) fs)))
/-- A struct of n numbers. -/
class TEq (P : Program) (t : Nat) (n : outParam Nat) : Prop where
  h : P.underlying t = some (.struct (P.fieldsOf t))
  s : P.stoodInHeld t = false
  g : P.eqGuardType P.depth t = false
  f : flatI P 0 (P.fieldsOf t).toList = true
  n : (P.fieldsOf t).toList.length = n
section
variable {P : Program} {d : Option Nat} {ty : Nat} {pos : String} {af : Array Edge} {gd : Option (Nat × Bool)} {tm : List (Nat × AV)} {h : Heap} {x y : Operand} {xt yt n : Nat} {l l' : List AV} {L : List (IntKind × Int × Int)} {p : Prop} [dp : Decidable p]
end
end Go.VM
/- Loops over functions: the iterator's part and the rounds'. No condition. -/
namespace Go.VM
open Go
set_option linter.unusedVariables false
set_option linter.unusedSimpArgs false
/-! ### Beside what is not touched -/
structure Aft (m : Ghost) (h : Heap) (w : World) (m' : Ghost) (h' : Heap) (w' : World) : Prop where
  le : Gle m m'
  holds : Holds m' w'
  same : Same w w'
  heap : HRel m' h' w'
  kept : Kept m h w m' h' w'
theorem Aft.frame {m m' : Ghost} {h h' f : Heap} {w w' : World} (k : Aft m h w m' h' w') (hh : HRel m (f ++ h) w) (hm : Holds m w) : Aft m (f ++ h) w m' (f ++ h') w' := by
  have hnd := hh.1
  have hf_in : ∀ x ∈ f, x ∈ f ++ h := fun x hx => List.mem_append_left _ hx
  have hh_in : ∀ x ∈ h, x ∈ f ++ h := fun x hx => List.mem_append_right _ hx
  have hdisj : ∀ x ∈ f, ∀ b, x.blk = some b → ¬ ∃ y ∈ h, y.blk = some b := by
    intro x hx b hb hy
    rw [List.filterMap_append, List.nodup_append] at hnd
    obtain ⟨y, hy, hyb⟩ := hy
    exact hnd.2.2 b (mem_blks.2 ⟨x, hx, hb⟩) b (mem_blks.2 ⟨y, hy, hyb⟩) rfl
  have hblk : ∀ x ∈ f, ∀ b, x.blk = some b → b < w.heap.size := fun x hx b hb => (hh.2 x (hf_in x hx)).2.lt hb
  have hfix : ∀ x ∈ f, ∀ b, x.blk = some b → w'.heap[b]? = w.heap[b]? := fun x hx b hb => k.kept.frame b (hblk x hx b hb) (hdisj x hx b hb)
  have hf' : ∀ x ∈ f, (∀ b, x.blk = some b → m' b = none) ∧ OERel m' w' x := by
    intro x hx
    refine ⟨fun b hb => ?_, ((hh.2 x (hf_in x hx)).2.mono k.le).local (hfix x hx)⟩
    cases hmb : m' b with
    | none => rfl
    | some o =>
      rcases k.kept.grow b o hmb with h | h | h
      · rw [(hh.2 x (hf_in x hx)).1 b hb] at h; cases h
      · exact absurd h (hdisj x hx b hb)
      · have := hblk x hx b hb; omega
  refine ⟨k.le, k.holds, k.same, ⟨?_, fun x hx => ?_⟩, ⟨fun b o e => ?_, fun b hb hn => k.kept.frame b hb fun ⟨y, hy, e⟩ => hn ⟨y, hh_in y hy, e⟩, fun x hx b hb => ?_⟩⟩
  · rw [List.filterMap_append, List.nodup_append]
    rw [List.filterMap_append, List.nodup_append] at hnd
    refine ⟨hnd.1, k.heap.1, fun b hb c hc e => ?_⟩
    subst e
    obtain ⟨x, hx, hxb⟩ := mem_blks.1 hb
    obtain ⟨y, hy, hyb⟩ := mem_blks.1 hc
    rcases k.kept.own y hy b hyb with h | h
    · exact hdisj x hx b hxb h
    · have := hblk x hx b hxb; omega
  · rw [List.mem_append] at hx
    rcases hx with hx | hx
    · exact hf' x hx
    · exact k.heap.2 x hx
  · rcases k.kept.grow b o e with h | ⟨y, hy, h⟩ | h
    · exact .inl h
    · exact .inr (.inl ⟨y, hh_in y hy, h⟩)
    · exact .inr (.inr h)
  · rw [List.mem_append] at hx
    rcases hx with hx | hx
    · exact .inl ⟨x, hf_in x hx, hb⟩
    · rcases k.kept.own x hx b hb with ⟨y, hy, h⟩ | h
      · exact .inl ⟨y, hh_in y hy, h⟩
      · exact .inr h
theorem ACalls.beside {P : Program} {g : Nat} {vs : List AV} {h : Heap} {Q : AV → Heap → Prop} (f : Heap) (k : ACalls P g vs h Q) : ACalls P g vs (f ++ h) (fun r h' => ∃ h1, Q r h1 ∧ h' = f ++ h1) := by
  intro m w us h1 h2 h3
  refine (k m w us h1 h2 (h3.sub (List.sublist_append_right f h))).mono ?_
  rintro e w' ⟨m', v, r, h', rfl, g1, g2, g3, g4, g5, g6, g7⟩
  have q := Aft.frame ⟨g1, g2, g3, g5, g6⟩ h3 h1
  exact ⟨m', v, r, _, rfl, g1, g2, g3, g4, q.heap, q.kept, h', g7, rfl⟩
/-! ### A round -/
section
variable {P : Program} {ops : Array Oper} {rest : List Oper} {s : St} {K : St → Prop} {d : Option Nat} {ty : Nat} {pos : String} {af : Array Edge} {x : Operand} {args : Array Operand} {ats : Array Nat} {l : Nat} {vs : List AV}
end
/-! ### The loop -/
section
variable {P : Program} {n : Nat} {t : List (Nat × AV)} {h h0 hi : Heap} {Q : Exit → St → Prop} {g : Operand} {ps : Array Tmp} {assign body : Code} {f : Nat} {caps : List AV} {xs : List (List AV)}
end
end Go.VM
/- A function value called, whatever it is; three-index slices; clear. No condition. -/
namespace Go.VM
open Go
set_option linter.unusedVariables false
set_option linter.unusedSimpArgs false
/-- What is called: a closure, or a function's own value. -/
inductive Fv : AV → Nat → List AV → Prop
  | clo (f : Nat) (l : List AV) : Fv (.clo (.func f) l) f l
  | fn (f : Nat) : Fv (.val (.func (.func f) #[] #[])) f []
section
variable {ro : Option Nat} {P : Program} {n : Nat} {t : List (Nat × AV)} {h : Heap} {K : St → Prop} {d : Nat} {ty : Nat} {pos : String} {af : Array Edge} {gd : Option (Nat × Bool)} {x y : Operand}
theorem S.callv {f : Nat} {args : Array Operand} {ats : Array Nat} {vs caps : List AV} {fv : AV} [TFun P f] (hF : Fv fv f caps) (hc : ACalls P f (vs ++ caps) h (fun r h' => K ⟨n, (d, r) :: t, h'⟩)) (hg : evalA t x = some fv := by rfl) (hx : Evals t args.toList vs := by (repeat (first | exact Evals.nil | (apply Evals.cons; rfl)))) (hn : Nat.blt d n = true := by rfl) :
    Step P ⟨some d, .call { callee := .value x, args := args, argTypes := ats }, ty, pos, af, gd⟩ ⟨n, t, h⟩ K := by
  cases hF with
  | clo f l => exact step_call_clo hg hx hn hc
  | fn f =>
    refine step_of_calls (s := ⟨n, t, h⟩) (f := f) (vs := vs) (fun m0 w0 m a w hs => ⟨args.toList.map a.eval, hx.rel hs.tmps, ?_⟩) hn (by rw [List.append_nil] at hc; exact hc)
    have e : (args.toList.map a.eval).toArray = args.map a.eval := by apply Array.ext'; simp
    rw [e]
    simp [execOp, resolve, Deferred.ofValue, eval_val hs.tmps hg, invoke, run_callF]
theorem zero_ones {m : Ghost} {z : AV} {u : Value} (hrel : Rel m z u) (ho : z.cells.all AV.one = true) : ∀ y ∈ u.cells.toList, y.oneCell' = true := by
  have h1 := hrel.cells
  intro y hy
  obtain ⟨j, hj, rfl⟩ := List.getElem_of_mem hy
  have hjz : j < z.cells.length := by rw [← h1.length]; exact hj
  obtain ⟨cc, c1, c2⟩ := h1.at j _ (List.getElem?_eq_getElem hjz)
  rw [List.getElem?_eq_getElem hj] at c1
  injection c1 with c1
  rw [c1]
  exact c2.one (List.all_eq_true.1 ho _ (List.getElem_mem hjz))
/-- clear of a piece of an owned slice. -/
theorem step_clear {s : St} {h' : Heap} {d : Option Nat} {xt e k bs lo n : Nat} {g : Bool} {v : Value} {l : List AV} {z : AV} [he : TElem P xt e k bs g] [hz : TZel P e z] (hx : evalA s.t x = some (.vw v k lo n)) (hln : lo + n ≤ l.length) (ho : z.cells.all AV.one = true)
    (hu : Up s.h (.own v k l e) (.own v k (splice l lo (List.replicate n z)) e) h') (hf : fits s d = true) (hK : K (({ s with h := h' } : St).put d (.tup []))) : Step P ⟨d, .call { callee := .builtin .clear, args := #[x], argTypes := #[xt] }, ty, pos, af, gd⟩ s K := by
  intro m0 w0 a w ⟨m, hsim⟩ Q
  obtain ⟨q1, q2, q3, i, zv, hi, hsz, hby, hzv, hzs⟩ := elemQ_spec he.h
  obtain ⟨i', u, hi', hu', hrel, hus, _⟩ := zelQ_spec hz.h
  rw [hi] at hi'; injection hi' with hi'; subst hi'
  rw [hzv] at hu'; injection hu' with hu'; subst hu'
  have hone := zero_ones (hrel m) ho
  obtain ⟨hnone, q0⟩ := hsim.heap.2 _ hu.old
  have hx' := hsim.tmps.eval hx
  simp only [Rel] at hx'
  obtain ⟨D, dc, hx', _, _, hD0, hD⟩ := hx'
  have hrt : Rel m (.tup []) (.tuple #[]) := by simp only [Rel]; exact ⟨#[], rfl, by simp [RelL]⟩
  unfold Oper.wp
  by_cases h0 : n = 0
  · subst h0
    have hsp : splice l lo (List.replicate 0 z) = l := by simp [splice]
    rw [hsp] at hu
    have hrr : (execOp a.eval ⟨d, .call { callee := .builtin .clear, args := #[x], argTypes := #[xt] }, ty, pos, af, gd⟩).run P w = .ok (.value (.tuple #[])) w := by
      cases D <;> simp [execOp, resolve, invoke, builtin, hx', Builtin.clear_, run_underlying q1]
    rw [hrr]
    exact ⟨_, hK, m, SimG.put (s := { s with h := h' }) (hsim.up hu (Same.refl w) (fun _ _ _ => rfl) (fun _ _ _ => rfl) q0 (fun b hb => .inl hb)) hf hrt⟩
  · obtain ⟨b, N, cap, rfl, rfl, hN⟩ := hD (by omega)
    rcases q0.own_cases with ⟨A', hA', rfl⟩ | ⟨b', cap', cur, zs, hv', hc0, q7, q8, q9, q10, q11, q12, q4, q5, q6, q13⟩
    · simp at hln; omega
    injection hv' with hv' hN' hcap
    injection hv' with hv'
    injection hv' with hv'
    subst hv'; subst hN'; subst hcap
    have hk1 : lo * k + n * k ≤ l.length * k := by rw [← Nat.add_mul]; exact Nat.mul_le_mul_right _ hln
    have hk2 : l.length * k ≤ cur.size := by rw [q10]; exact Nat.mul_le_mul_right _ q8
    have hkz : 0 < zv.cells.size := by rw [hzs]; exact q3
    obtain ⟨ys, hys⟩ : ∃ ys, (Builtin.zeroCells zv.cells n).toList = ys := ⟨_, rfl⟩
    have hymk : ys = (madeCells zv.cells (n * k)).toList := by
      rw [← hys, ← hzs]
      simp [Builtin.zeroCells, madeCells, Nat.mul_comm]
    have hyl : ys.length = n * k := by rw [hymk, Array.length_toList, size_madeCells]
    have hyr : RelE m k (List.replicate n z) ys := by rw [hymk]; exact relE_zero (hrel m) hzs q3 n
    have hy1 : ∀ y ∈ ys, y.oneCell' = true := by rw [hymk]; exact one_made hkz hone
    have hst := run_storeCells_at P b (lo * k) e ys 0 cur w q7 (by omega) hy1
    simp only [Nat.add_zero] at hst
    have hzr : ∀ w, (zeroValue e).run P w = .ok zv w := fun w => by simp [zeroValue, typeInfo, hi, hzv]
    have hrr : (execOp a.eval ⟨d, .call { callee := .builtin .clear, args := #[x], argTypes := #[xt] }, ty, pos, af, gd⟩).run P w = .ok (.value (.tuple #[])) (w.setRow b (cur.toList.take (lo * k) ++ ys ++ cur.toList.drop (lo * k + ys.length)).toArray) := by
      obtain ⟨n', rfl⟩ : ∃ n', n = n' + 1 := ⟨n - 1, by omega⟩
      simp [execOp, resolve, invoke, builtin, hx', Builtin.clear_, run_underlying q1, hzr, hys]
      rw [← List.append_assoc, hst]
      simp
    rw [hrr]
    have hcur : (cur.toList.take (lo * k) ++ ys ++ cur.toList.drop (lo * k + ys.length)).take (l.length * k) = zs.take (lo * k) ++ ys ++ zs.drop (lo * k + ys.length) := by
      rw [take_splice rfl (by omega) (by simpa using hk2), q11]
    have hspl : (splice l lo (List.replicate n z)).length = l.length := by simp [splice]; omega
    have hrl : RelE m k (splice l lo (List.replicate n z)) (zs.take (lo * k) ++ ys ++ zs.drop (lo * k + ys.length)) := by
      unfold splice
      have e1 : lo * k + ys.length = (lo + (List.replicate n z).length) * k := by rw [hyl, List.length_replicate, Nat.add_mul]
      rw [e1]
      exact ((q4.take lo).append hyr).append (q4.drop _)
    refine ⟨_, hK, m, SimG.put (s := { s with h := h' }) (hsim.up hu (Same.setRow _ _ _) (fun b' o ho => setRow_ne w b b' _ ?_) (fun b' hb' hne => setRow_ne w b b' _ (fun e => hne (by rw [e]; exact q6)))
      (own_set q0 hspl rfl hc0 q7 (setRow_at w b _ q7) (by simp; omega) ?_ ?_) (fun b' hb' => .inl hb')) hf hrt⟩
    · intro e; subst e; rw [hnone b' q6] at ho; cases ho
    · show RelE m k (splice l lo (List.replicate n z)) ((cur.toList.take (lo * k) ++ ys ++ cur.toList.drop (lo * k + ys.length)).take (l.length * k))
      rw [hcur]; exact hrl
    · show ∀ y' ∈ (cur.toList.take (lo * k) ++ ys ++ cur.toList.drop (lo * k + ys.length)).take (l.length * k), _
      rw [hcur]; exact mem_splice q5 hy1
theorem S.clear {xt e k bs lo m : Nat} {g : Bool} {v : Value} {l : List AV} {z : AV} {h' : Heap} [he : TElem P xt e k bs g] [hz : TZel P e z] (hK : K ⟨n, t, h'⟩) (hx : evalA t x = some (.vw v k lo m) := by rfl) (hu : Up h (.own v k l e) (.own v k (splice l lo (List.replicate m z)) e) h' := by (repeat (first | exact Up.here | assumption | apply Up.there))) (hln : lo + m ≤ l.length := by (first | omega | (simp only [ints, splice, List.length_map, List.length_append, List.length_cons, List.length_nil, List.length_take, List.length_drop, List.length_set, List.length_replicate]; omega))) (ho : z.cells.all AV.one = true := by rfl) :
    Step P ⟨none, .call { callee := .builtin .clear, args := #[x], argTypes := #[xt] }, ty, pos, af, gd⟩ ⟨n, t, h⟩ K := step_clear hx hln ho hu rfl hK
theorem iSl {s : St} {d : Option Nat} {xt : Nat} {a b c : Option Operand} (k : Step P ⟨d, .slice xt x a b c, ty, pos, af, gd⟩ s K) : Step P ⟨d, .slice xt x a b c, ty, pos, af, gd⟩ s K := k
/-! Slices of two elements, built and never changed -/
variable {ops : Array Oper} {hro : Heap} {todo : List Nat} {i : Nat}
theorem R2.permh {h' : Heap} (hp : h'.Perm h) (k : R2 ro P ops K n hro todo t h') : R2 ro P ops K n hro todo t h := .mk <| fun hok m0 w0 m a w act pend fuel c hf =>
  k.go hok m0 w0 m a w act pend fuel { c with base := c.base.permh (hp.append_left hro) } hf
theorem R2.congt {t' : List (Nat × AV)} (hm : ∀ x, get t' x = get t x) (k : R2 ro P ops K n hro todo t' h) : R2 ro P ops K n hro todo t h := .mk <| fun hok => (k.go hok).congt hm
/-- Two variables made, in whichever order. -/
theorem R2.alloc2 {j d' e e' ty' : Nat} {pos' : String} {af' : Array Edge} {z z' : List AV} [TZero P e z] [TZero P e' z']
    (k : ∀ b b', R2 ro P ops K n hro todo ((d', .val (.pointer (some ⟨b', 0, none⟩))) :: (d, .val (.pointer (some ⟨b, 0, none⟩))) :: t) (.box b' z' e' :: .box b z e :: h))
    (hi : ops[i]? = some ⟨some d, .alloc e, ty, pos, af, none⟩ := by rfl) (hj : ops[j]? = some ⟨some d', .alloc e', ty', pos', af', none⟩ := by rfl)
    (hr : (i :: j :: todo).filter (rdy ops (i :: j :: todo)) = [i, j] := by decide +kernel) (hri : (j :: todo).filter (rdy ops (j :: todo)) = [j] := by decide +kernel) (hrj : (i :: todo).filter (rdy ops (i :: todo)) = [i] := by decide +kernel)
    (hn : Nat.blt d n = true := by rfl) (hn' : Nat.blt d' n = true := by rfl) (hne : Nat.beq d d' = false := by rfl) (hni : inL (j :: todo) i = false := by rfl) (hnj : inL (i :: todo) j = false := by rfl) : R2 ro P ops K n hro (i :: j :: todo) t h := by
  have hdd : d ≠ d' := fun e => by subst e; simp at hne
  have hnj' : inL todo j = false := by
    cases q : inL todo j with
    | false => rfl
    | true => rw [← hnj]; exact (inL_iff.2 (.tail _ (inL_iff.1 q))).symm ▸ rfl
  have hni' : inL todo i = false := by
    cases q : inL todo i with
    | false => rfl
    | true => rw [← hni]; exact (inL_iff.2 (.tail _ (inL_iff.1 q))).symm ▸ rfl
  have ki : ∀ tr, Step P ⟨some d, .alloc e, ty, pos, af, none⟩ ⟨n, tr, h⟩ (fun s' => ∃ v, get s'.t d = some v ∧ R2 ro P ops K n hro (j :: todo) ((d, v) :: t) s'.h) := fun tr =>
    S.alloc (fun b => kd (R2.B (S.alloc (fun b' => kd (k b b')) hn') hj rfl hri (wanted_n rfl) hn' hnj')) hn
  have kj : ∀ tr, Step P ⟨some d', .alloc e', ty', pos', af', none⟩ ⟨n, tr, h⟩ (fun s' => ∃ v, get s'.t d' = some v ∧ R2 ro P ops K n hro (i :: todo) ((d', v) :: t) s'.h) := fun tr =>
    S.alloc (fun b' => kd (R2.B (S.alloc (fun b => kd (((k b b').permh (List.Perm.swap _ _ _)).congt fun x => by
      rw [get_eq, get_eq, get_eq, get_eq]
      by_cases h1 : d' = x
      · rw [if_pos h1, if_neg (fun h2 => hdd (h2.trans h1.symm)), if_pos h1]
      · rw [if_neg h1, if_neg h1])) hn) hi rfl hrj (wanted_n rfl) hn hni')) hn'
  refine .mk fun hok => DR.core hok (fun e => by cases e) fun q hq hrq => ?_
  have : q ∈ (i :: j :: todo).filter (rdy ops (i :: j :: todo)) := List.mem_filter.2 ⟨hq, hrq⟩
  rw [hr] at this
  simp at this
  rcases this with rfl | rfl
  · rw [readsAt_eq hi]
    refine ⟨_, eop_step hi (wanted_n rfl) (ki _) rfl hn, fun v h' hv => ?_⟩
    rw [dstAt_eq hi]
    exact (hv.go hok).congr (mem_filter_ne hni)
  · rw [readsAt_eq hj]
    refine ⟨_, eop_step hj (wanted_n rfl) (kj _) rfl hn', fun v h' hv => ?_⟩
    rw [dstAt_eq hj]
    refine (hv.go hok).congr fun x => ?_
    rw [← mem_filter_ne hnj x]
    simp only [List.mem_filter, List.mem_cons]
    constructor
    · rintro ⟨h1, h2⟩; exact ⟨by rcases h1 with h1 | h1 | h1 <;> simp [h1], h2⟩
    · rintro ⟨h1, h2⟩; exact ⟨by rcases h1 with h1 | h1 | h1 <;> simp [h1], h2⟩
end
end Go.VM
