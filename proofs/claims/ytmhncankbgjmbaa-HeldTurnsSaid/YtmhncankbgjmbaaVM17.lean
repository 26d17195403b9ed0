/- The rules of VM16, ready for a walk. No condition. -/
import Derived.Test.YtmhncankbgjmbaaVM16
namespace Go.VM
open Go
set_option linter.unusedVariables false
set_option linter.unusedSimpArgs false
theorem LeH.frame {h h' : Heap} (k : LeH h h') : ∀ f : Heap, LeH (f ++ h) (f ++ h')
  | [] => k
  | x :: f => .cons .here (LeH.frame k f)
theorem SimG.leh {m0 : GF} {w0 : World} {m : Ghost} {n : Nat} {t : List (Nat × AV)} {h h' : Heap} {a : Act} {w : World} (k : SimG m0 w0 m ⟨n, t, h⟩ a w) (q : LeH h h') : SimG m0 w0 m ⟨n, t, h'⟩ a w :=
  { k with heap := q.hrel k.heap, own := fun x hx b hb => by obtain ⟨y, h1, h2⟩ := q.mem hx; exact k.own y h1 b (h2.trans hb) }
section
variable {P : Program} {ops : Array Oper} {K : St → Prop} {n : Nat} {hro : Heap} {todo todo' : List Nat} {t : List (Nat × AV)} {h : Heap} {oi : Oper} {i d : Nat} {v : AV}
structure R2 (P : Program) (ops : Array Oper) (K : St → Prop) (n : Nat) (hro : Heap) (todo : List Nat) (t : List (Nat × AV)) (h : Heap) : Prop where go : okR ops = true → DR P ops K n hro todo t h
theorem DR.congr (hm : ∀ x, x ∈ todo ↔ x ∈ todo') (k : DR P ops K n hro todo' t h) : DR P ops K n hro todo t h := fun m0 w0 m a w act pend fuel c hf =>
  k m0 w0 m a w act pend fuel { c with
    part := fun i hi => (hm i).symm.trans (c.part i hi)
    tod := fun i hi => c.tod i ((hm i).2 hi)
    downV := fun j o hj hl e he hb => by
      have := c.downV j o hj ⟨hl.1, fun q => hl.2 ((hm j).1 q)⟩ e he hb
      exact ⟨this.1, fun q => this.2 ((hm _).2 q)⟩ } hf
theorem R2.congr (hm : ∀ x, x ∈ todo ↔ x ∈ todo') (k : R2 P ops K n hro todo' t h) : R2 P ops K n hro todo t h := .mk <| fun hok => (k.go hok).congr hm
inductive Sn : List Nat → Nat → List Nat → Prop
  | nil (i : Nat) : Sn [] i [i]
  | cons {j i : Nat} {l l' : List Nat} (k : Sn l i l') : Sn (j :: l) i (j :: l')
theorem Sn.mem {l l' : List Nat} (k : Sn l i l') : ∀ x, x ∈ i :: l ↔ x ∈ l' := by
  induction k with
  | nil i => intro x; rfl
  | @cons j i l l' k ih => intro x; rw [List.mem_cons, List.mem_cons, List.mem_cons, ← ih x, List.mem_cons]; constructor <;> (rintro (h | h | h) <;> simp [h])
/-- The first one goes to the end. -/
theorem R2.rot (k : R2 P ops K n hro todo' t h) (hs : Sn todo i todo' := by (repeat (first | apply Sn.nil | apply Sn.cons))) : R2 P ops K n hro (i :: todo) t h := k.congr hs.mem
/-- The last one to the front. -/
theorem R2.back {l l' : List Nat} (k : R2 P ops K n hro (i :: l) t h) (hs : Sn l i l' := by (repeat (first | apply Sn.nil | apply Sn.cons))) : R2 P ops K n hro l' t h := k.congr fun x => (hs.mem x).symm
theorem mem_filter_ne (hn : inL todo i = false) : ∀ x, x ∈ (i :: todo).filter (fun j => !Nat.beq j i) ↔ x ∈ todo := fun x => by
  have hi : i ∉ todo := fun q => by rw [inL_iff.2 q] at hn; cases hn
  rw [List.mem_filter]
  cases hb : Nat.beq x i
  · have : x ≠ i := fun e => by subst e; simp at hb
    simp [this]
  · have : x = i := Nat.eq_of_beq_eq_true hb
    subst this
    simp [hi]
theorem readsAt_eq (hi : ops[i]? = some oi) : readsAt ops i = readsOf ops oi := by unfold readsAt; rw [hi]
theorem dstAt_eq (hi : ops[i]? = some oi) : dstAt ops i = oi.dst := by unfold dstAt; rw [hi]; rfl
theorem pend_pur (hi : ops[i]? = some oi) {tr : List (Nat × AV)} (hw : Wanted ops tr oi true) (hp : Pur P oi tr hro v) (hd : oi.dst = some d) (hn : Nat.blt d n = true) (m : Ghost) : PendOk P ops n hro m (i, tr, v) := by
  refine ⟨fun d' hd' => ?_, fun m0 w0 m' a w h g hs Q => ?_⟩
  · rw [dstAt_eq hi, hd] at hd'; injection hd' with e; subst e; exact Nat.le_of_ble_eq_true hn
  · obtain ⟨u, hu, hrun⟩ := hp m' a w hs.tmps hs.holds (hs.heap.sub (List.sublist_append_left _ _))
    unfold wpOp
    simp only [hi]
    rw [if_pos (hw.spec hs.tmps)]
    left
    unfold Oper.wp
    rw [hrun w hs.holds (fun _ _ _ _ => rfl)]
    rw [dstAt_eq hi]
    exact ⟨m', u, Gle.refl _, rfl, hu, (SimG.put hs (dst := oi.dst) (by rw [hd]; exact hn) hu |> fun q => by rw [hd] at q ⊢; exact q.bare)⟩
theorem pend_skip (hi : ops[i]? = some oi) {tr : List (Nat × AV)} (hw : Wanted ops tr oi false) (hd : oi.dst = some d) (hn : Nat.blt d n = true) (m : Ghost) : PendOk P ops n hro m (i, tr, .tup []) := by
  refine ⟨fun d' hd' => ?_, fun m0 w0 m' a w h g hs Q => ?_⟩
  · rw [dstAt_eq hi, hd] at hd'; injection hd' with e; subst e; exact Nat.le_of_ble_eq_true hn
  · unfold wpOp
    simp only [hi]
    rw [if_neg (by rw [hw.spec hs.tmps]; simp), dstAt_eq hi]
    exact ⟨m', undef, Gle.refl _, rfl, rel_undef, (SimG.put hs (dst := oi.dst) (by rw [hd]; exact hn) rel_undef |> fun q => by rw [hd] at q ⊢; exact q.bare)⟩
theorem pend_step (hi : ops[i]? = some oi) {tr : List (Nat × AV)} (hw : Wanted ops tr oi true) (hst : Step P oi ⟨n, tr, hro⟩ (fun s' => get s'.t d = some v ∧ LeH s'.h hro)) (hd : oi.dst = some d) (hn : Nat.blt d n = true) (m : Ghost) : PendOk P ops n hro m (i, tr, v) := by
  refine ⟨fun d' hd' => ?_, fun m0 w0 m' a w h g hs Q => ?_⟩
  · rw [dstAt_eq hi, hd] at hd'; injection hd' with e; subst e; exact Nat.le_of_ble_eq_true hn
  · unfold wpOp
    simp only [hi]
    rw [if_pos (hw.spec hs.tmps)]
    left
    refine Oper.wp_mono ?_ (step_frame hst (hs.permh List.perm_append_comm) Q)
    rintro a' w' ⟨s', m2, u, ⟨k1, k2⟩, g1, g2, g3, g4⟩
    rw [dstAt_eq hi]
    obtain ⟨u', q1, q2⟩ := g3 d v k1
    have hsz : d < a.tmps.size := by rw [hs.size]; exact Nat.le_of_ble_eq_true hn
    rw [g2, hd] at q1
    simp only [Act.put] at q1
    rw [Array.getElem?_setIfInBounds_self_of_lt hsz] at q1
    injection q1 with q1; subst q1
    exact ⟨m2, u, g1, g2, q2, (g4.leh (k2.frame h)).permh List.perm_append_comm⟩
theorem eop_step (hi : ops[i]? = some oi) {tr : List (Nat × AV)} {R : AV → Heap → Prop} (hw : Wanted ops tr oi true) (hst : Step P oi ⟨n, tr, h⟩ (fun s' => ∃ v, get s'.t d = some v ∧ R v s'.h)) (hd : oi.dst = some d) (hn : Nat.blt d n = true) : EOp P ops n i tr hro h R := by
  refine ⟨fun d' hd' => ?_, fun m0 w0 m a w hs Q => ?_⟩
  · rw [dstAt_eq hi, hd] at hd'; injection hd' with e; subst e; exact Nat.le_of_ble_eq_true hn
  · unfold wpOp
    simp only [hi]
    rw [if_pos (hw.spec hs.tmps)]
    left
    refine Oper.wp_mono ?_ (step_frame hst hs Q)
    rintro a' w' ⟨s', m2, u, ⟨v, k1, k2⟩, g1, g2, g3, g4⟩
    rw [dstAt_eq hi]
    obtain ⟨u', q1, q2⟩ := g3 d v k1
    have hsz : d < a.tmps.size := by rw [hs.size]; exact Nat.le_of_ble_eq_true hn
    rw [g2, hd] at q1
    simp only [Act.put] at q1
    rw [Array.getElem?_setIfInBounds_self_of_lt hsz] at q1
    injection q1 with q1; subst q1
    exact ⟨v, _, k2, m2, u, g1, g2, q2, g4⟩
theorem eop_store (hi : ops[i]? = some oi) {tr : List (Nat × AV)} {R : AV → Heap → Prop} (hw : Wanted ops tr oi true) (hst : Step P oi ⟨n, tr, h⟩ (fun s' => R (.tup []) s'.h)) (hd : oi.dst = none) : EOp P ops n i tr hro h R := by
  refine ⟨fun d' hd' => (by rw [dstAt_eq hi, hd] at hd'; cases hd'), fun m0 w0 m a w hs Q => ?_⟩
  unfold wpOp
  simp only [hi]
  rw [if_pos (hw.spec hs.tmps)]
  left
  refine Oper.wp_mono ?_ (step_frame hst hs Q)
  rintro a' w' ⟨s', m2, u, k, g1, g2, g3, g4⟩
  rw [dstAt_eq hi, hd]
  rw [hd] at g2
  exact ⟨_, _, k, m2, undef, g1, g2, rel_undef, g4⟩
/-! The first one of those to do -/
theorem R2.T (k : R2 P ops K n hro todo ((d, v) :: t) h) (hi : ops[i]? = some oi := by rfl) (hk : quietOp oi.op = true := by rfl)
    (hw : Wanted ops (restr (readsOf ops oi) t) oi true := by first | exact wanted_n rfl | exact wanted_p rfl rfl rfl (by first | rfl | exact decide_eq_true (by assumption) | exact decide_eq_false (by assumption) | (simp; done) | (simp; omega) | fail) | fail)
    (hp : Pur P oi (restr (readsOf ops oi) t) hro v := by first | (apply PurV.pur; first | (apply jM; exact pur_move rfl) | (apply jA; exact pur_assign rfl) | (apply jB; first | (apply jB_lss; exact pur_lss rfl rfl) | (apply jB_eql; exact pur_eql rfl rfl) | (apply jB_add; exact pur_add rfl rfl (by first | exact wrap_i64 (by omega) (by omega) | exact wrap_u32 (by omega) (by omega) | exact wrap_u8 (by omega) (by omega) | exact wrap_u16 (by omega) (by omega) | exact wrap_u64 (by omega) (by omega) | exact wrap_i32 (by omega) (by omega) | exact rfl)) | (apply jB_neq; exact pur_neq rfl rfl) | (apply jB_sub; exact pur_sub rfl rfl (by first | exact wrap_i64 (by omega) (by omega) | exact wrap_u32 (by omega) (by omega) | exact wrap_u8 (by omega) (by omega) | exact wrap_u16 (by omega) (by omega) | exact wrap_u64 (by omega) (by omega) | exact wrap_i32 (by omega) (by omega) | exact rfl)) | (apply jB_leq; exact pur_leq rfl rfl) | (apply jB_gtr; exact pur_gtr rfl rfl) | (apply jB_geq; exact pur_geq rfl rfl) | (apply jB_mul; exact pur_mul rfl rfl (by first | exact wrap_i64 (by omega) (by omega) | exact wrap_u32 (by omega) (by omega) | exact wrap_u8 (by omega) (by omega) | exact wrap_u16 (by omega) (by omega) | exact wrap_u64 (by omega) (by omega) | exact wrap_i32 (by omega) (by omega) | exact rfl)) | (apply jB_shl; exact pur_shl rfl rfl (by omega) rfl) | (apply jB_shr; exact pur_shr rfl rfl (by omega) rfl) | (apply jB_quo; exact pur_quo rfl rfl (by omega) (by first | exact wrap_quo (by omega) (by omega) (by omega) | exact rfl)) | (apply jB_rem; exact pur_rem rfl rfl (by omega) (by first | exact tmod_nn (by omega) | exact rfl)) | exact pur_bits rfl rfl rfl rfl) | (apply jF; first | exact pur_fieldAddr00 rfl | exact pur_fieldAddr rfl | exact pur_fieldAddr_rp rfl | exact pur_fieldAddr_ep rfl) | (apply jI; first | exact pur_index_ro rfl rfl (by first | exact rfl | exact (Int.toNat_of_nonneg (by omega)).symm) (by first | omega | (simp only [ints, splice, List.length_map, List.length_append, List.length_cons, List.length_nil, List.length_take, List.length_drop, List.length_set, List.length_replicate]; omega)) | exact pur_index_own rfl (by (fail_if_success (apply memG)); repeat (first | exact List.Mem.head _ | assumption | refine List.Mem.tail _ ?_)) rfl (by first | exact rfl | exact (Int.toNat_of_nonneg (by omega)).symm) (by first | omega | (simp only [ints, splice, List.length_map, List.length_append, List.length_cons, List.length_nil, List.length_take, List.length_drop, List.length_set, List.length_replicate]; omega)) | exact pur_index_vw rfl rfl (by first | exact rfl | exact (Int.toNat_of_nonneg (by omega)).symm) (by first | omega | (simp only [ints, splice, List.length_map, List.length_append, List.length_cons, List.length_nil, List.length_take, List.length_drop, List.length_set, List.length_replicate]; omega))) | (apply jX; exact pur_extract rfl rfl) | (apply jC; first | exact pur_len rfl (by first | exact SrcA.ro _ | exact SrcA.own (by (fail_if_success (apply memG)); repeat (first | exact List.Mem.head _ | assumption | refine List.Mem.tail _ ?_)) | exact SrcA.vw (by (fail_if_success (apply memG)); repeat (first | exact List.Mem.head _ | assumption | refine List.Mem.tail _ ?_)) (by first | omega | (simp only [ints, splice, List.length_map, List.length_append, List.length_cons, List.length_nil, List.length_take, List.length_drop, List.length_set, List.length_replicate]; omega)) | exact SrcA.emp | exact SrcA.nil | exact SrcA.all (by assumption)) (by first | exact len_ints _ _ | exact List.length_map _ | (simp only [ints, splice, List.length_map, List.length_append, List.length_cons, List.length_nil, List.length_take, List.length_drop, List.length_set, List.length_replicate]; rfl) | rfl) | exact pur_len_vw rfl | exact pur_len_str rfl | exact pur_min rfl rfl | exact pur_max rfl rfl | exact pur_min3 rfl rfl rfl | exact pur_max3 rfl rfl rfl) | (apply jP; first | exact pur_pick_tp rfl (by first | assumption | omega) rfl | exact pur_pick_fp rfl (by first | assumption | omega) rfl | exact pur_pick_f rfl (by rfl) rfl | exact pur_pick_t rfl (by rfl) rfl) | (apply jU; first | exact pur_not rfl | exact pur_notb rfl | exact pur_neg rfl (by first | exact wrap_i64 (by omega) (by omega) | exact wrap_u32 (by omega) (by omega) | exact wrap_u8 (by omega) (by omega) | exact wrap_u16 (by omega) (by omega) | exact wrap_u64 (by omega) (by omega) | exact wrap_i32 (by omega) (by omega) | exact rfl)) | (apply jD; exact pur_field rfl rfl) | (apply jV; exact pur_conv rfl (by first | exact wrap_i64 (by omega) (by omega) | exact wrap_u32 (by omega) (by omega) | exact wrap_u8 (by omega) (by omega) | exact wrap_u16 (by omega) (by omega) | exact wrap_u64 (by omega) (by omega) | exact wrap_i32 (by omega) (by omega) | exact rfl)) | (apply jBu; exact pur_build (by repeat (first | exact EvalP.nil | (apply EvalP.cons; rfl))) (by rfl)) | (apply jS; first | exact pur_slice_ro rfl (by first | exact rfl | exact ⟨_, _, rfl, (by first | exact rfl | exact (Int.toNat_of_nonneg (by omega)).symm)⟩) (by first | exact rfl | exact ⟨_, _, rfl, (by first | exact rfl | exact (Int.toNat_of_nonneg (by omega)).symm)⟩) (by first | omega | (simp only [ints, splice, List.length_map, List.length_append, List.length_cons, List.length_nil, List.length_take, List.length_drop, List.length_set, List.length_replicate]; omega)) (by first | omega | (simp only [ints, splice, List.length_map, List.length_append, List.length_cons, List.length_nil, List.length_take, List.length_drop, List.length_set, List.length_replicate]; omega)) | exact pur_slice_own rfl (by (fail_if_success (apply memG)); repeat (first | exact List.Mem.head _ | assumption | refine List.Mem.tail _ ?_)) (by first | exact rfl | exact ⟨_, _, rfl, (by first | exact rfl | exact (Int.toNat_of_nonneg (by omega)).symm)⟩) (by first | exact rfl | exact ⟨_, _, rfl, (by first | exact rfl | exact (Int.toNat_of_nonneg (by omega)).symm)⟩) (by first | omega | (simp only [ints, splice, List.length_map, List.length_append, List.length_cons, List.length_nil, List.length_take, List.length_drop, List.length_set, List.length_replicate]; omega)) (by first | omega | (simp only [ints, splice, List.length_map, List.length_append, List.length_cons, List.length_nil, List.length_take, List.length_drop, List.length_set, List.length_replicate]; omega)) | exact pur_slice_vw rfl (by first | exact rfl | exact ⟨_, _, rfl, (by first | exact rfl | exact (Int.toNat_of_nonneg (by omega)).symm)⟩) (by first | exact rfl | exact ⟨_, _, rfl, (by first | exact rfl | exact (Int.toNat_of_nonneg (by omega)).symm)⟩) (by first | omega | (simp only [ints, splice, List.length_map, List.length_append, List.length_cons, List.length_nil, List.length_take, List.length_drop, List.length_set, List.length_replicate]; omega)) (by first | omega | (simp only [ints, splice, List.length_map, List.length_append, List.length_cons, List.length_nil, List.length_take, List.length_drop, List.length_set, List.length_replicate]; omega))) | (apply jMk; exact pur_makeFunc (by repeat (first | exact Evals.nil | (apply Evals.cons; rfl))))) | (first | exact pur_load_boxA rfl (by (fail_if_success (apply memG)); repeat (first | exact List.Mem.head _ | assumption | refine List.Mem.tail _ ?_)) rfl | exact pur_load_box rfl (by (fail_if_success (apply memG)); repeat (first | exact List.Mem.head _ | assumption | refine List.Mem.tail _ ?_)) rfl | exact pur_load_rpA rfl (by first | exact at_ints (by assumption) | exact at_intsN (by omega) | exact at_map (by assumption) | exact at_mapN (by omega) | rfl | assumption) rfl rfl | exact pur_load_rp rfl (by first | exact at_ints (by assumption) | exact at_intsN (by omega) | exact at_map (by assumption) | exact at_mapN (by omega) | rfl | assumption) rfl | exact pur_load_epA rfl (by (fail_if_success (apply memG)); repeat (first | exact List.Mem.head _ | assumption | refine List.Mem.tail _ ?_)) (by first | exact at_ints (by assumption) | exact at_intsN (by omega) | exact at_map (by assumption) | exact at_mapN (by omega) | rfl | assumption) rfl rfl | exact pur_load_ep rfl (by (fail_if_success (apply memG)); repeat (first | exact List.Mem.head _ | assumption | refine List.Mem.tail _ ?_)) (by first | exact at_ints (by assumption) | exact at_intsN (by omega) | exact at_map (by assumption) | exact at_mapN (by omega) | rfl | assumption) rfl) | (apply PurV.pur; first | (apply jN; exact pur_nilCheck rfl) | (apply jB; first | (apply jB_eql; exact pur_eqlb rfl rfl) | (apply jB_neq; exact pur_neqb rfl rfl) | fail) | fail) | fail) (hd : oi.dst = some d := by rfl) (hn : Nat.blt d n = true := by rfl) (hr : rdy ops (i :: todo) i = true := by decide +kernel) (hni : inL todo i = false := by rfl) : R2 P ops K n hro (i :: todo) t h := .mk <| fun hok =>
  DR.take hok (List.mem_cons_self ..) hr (by rw [dstAt_eq hi, hd]) (fun m => by rw [readsAt_eq hi]; exact pend_pur hi hw hp hd hn m) ((k.go hok).congr (mem_filter_ne hni))
theorem R2.S (k : R2 P ops K n hro todo ((d, .tup []) :: t) h) (hi : ops[i]? = some oi := by rfl)
    (hw : Wanted ops (restr (readsOf ops oi) t) oi false := by first | exact wanted_u rfl rfl rfl | exact wanted_m rfl rfl rfl (by first | rfl | exact decide_eq_true (by assumption) | exact decide_eq_false (by assumption) | (simp; done) | (simp; omega) | fail) | fail)
    (hd : oi.dst = some d := by rfl) (hn : Nat.blt d n = true := by rfl) (hr : rdy ops (i :: todo) i = true := by decide +kernel) (hni : inL todo i = false := by rfl) : R2 P ops K n hro (i :: todo) t h := .mk <| fun hok =>
  DR.take hok (List.mem_cons_self ..) hr (by rw [dstAt_eq hi, hd]) (fun m => by rw [readsAt_eq hi]; exact pend_skip hi hw hd hn m) ((k.go hok).congr (mem_filter_ne hni))
/-- A step that leaves the heap as it was (the rest of it aside). -/
theorem R2.F (hst : Step P oi ⟨n, restr (readsOf ops oi) t, hro⟩ (fun s' => get s'.t d = some v ∧ LeH s'.h hro)) (k : R2 P ops K n hro todo ((d, v) :: t) h) (hi : ops[i]? = some oi := by rfl)
    (hw : Wanted ops (restr (readsOf ops oi) t) oi true := by first | exact wanted_n rfl | exact wanted_p rfl rfl rfl (by first | rfl | exact decide_eq_true (by assumption) | exact decide_eq_false (by assumption) | (simp; done) | (simp; omega) | fail) | fail)
    (hd : oi.dst = some d := by rfl) (hn : Nat.blt d n = true := by rfl) (hr : rdy ops (i :: todo) i = true := by decide +kernel) (hni : inL todo i = false := by rfl) : R2 P ops K n hro (i :: todo) t h := .mk <| fun hok =>
  DR.take hok (List.mem_cons_self ..) hr (by rw [dstAt_eq hi, hd]) (fun m => by rw [readsAt_eq hi]; exact pend_step hi hw hst hd hn m) ((k.go hok).congr (mem_filter_ne hni))
/-- A call that leaves the heap as it was. -/
theorem R2.C {f ty : Nat} {pos : String} {af : Array Edge} {gd : Option (Nat × Bool)} {args : Array Operand} {ats : Array Nat} {vs : List AV} [TFun P f] (hc : ACalls P f vs hro (fun r h' => r = v ∧ h' = hro)) (k : R2 P ops K n hro todo ((d, v) :: t) h)
    (hi : ops[i]? = some ⟨some d, .call { callee := .value (.func f), args := args, argTypes := ats }, ty, pos, af, gd⟩ := by rfl)
    (hx : Evals (restr (readsOf ops ⟨some d, .call { callee := .value (.func f), args := args, argTypes := ats }, ty, pos, af, gd⟩) t) args.toList vs := by (repeat (first | exact Evals.nil | (apply Evals.cons; rfl))))
    (hw : Wanted ops (restr (readsOf ops ⟨some d, .call { callee := .value (.func f), args := args, argTypes := ats }, ty, pos, af, gd⟩) t) ⟨some d, .call { callee := .value (.func f), args := args, argTypes := ats }, ty, pos, af, gd⟩ true := by first | exact wanted_n rfl | exact wanted_p rfl rfl rfl (by first | rfl | exact decide_eq_true (by assumption) | exact decide_eq_false (by assumption) | (simp; done) | (simp; omega) | fail) | fail)
    (hn : Nat.blt d n = true := by rfl) (hr : rdy ops (i :: todo) i = true := by decide +kernel) (hni : inL todo i = false := by rfl) : R2 P ops K n hro (i :: todo) t h :=
  R2.F (S.call (hc.mono (by rintro r h' ⟨rfl, rfl⟩; exact ⟨by rw [get_eq, if_pos rfl], .refl _⟩)) hx hn) k hi hw rfl hn hr hni
theorem only_spec {todo : List Nat} {i : Nat} (h : todo.filter (rdy ops todo) = [i]) : ∀ j ∈ todo, rdy ops todo j = true → j = i := fun j hj hr => by
  have : j ∈ todo.filter (rdy ops todo) := List.mem_filter.2 ⟨hj, hr⟩
  rw [h] at this; simpa using this
/-- The first one is the only one that may come up: a step that may do whatever it does. -/
theorem R2.B (k : Step P oi ⟨n, restr (readsOf ops oi) t, h⟩ (fun s' => ∃ v, get s'.t d = some v ∧ R2 P ops K n hro todo ((d, v) :: t) s'.h)) (hi : ops[i]? = some oi := by rfl) (hd : oi.dst = some d := by rfl) (hr : (i :: todo).filter (rdy ops (i :: todo)) = [i] := by decide +kernel)
    (hw : Wanted ops (restr (readsOf ops oi) t) oi true := by first | exact wanted_n rfl | exact wanted_p rfl rfl rfl (by first | rfl | exact decide_eq_true (by assumption) | exact decide_eq_false (by assumption) | (simp; done) | (simp; omega) | fail) | fail) (hn : Nat.blt d n = true := by rfl) (hni : inL todo i = false := by rfl) : R2 P ops K n hro (i :: todo) t h := .mk <| fun hok =>
  DR.core hok (fun e => by cases e) fun j hj hrj => by
    have := only_spec hr j hj hrj; subst this
    rw [readsAt_eq hi]
    refine ⟨_, eop_step hi hw k hd hn, fun v h' hv => ?_⟩
    rw [dstAt_eq hi, hd]
    exact (hv.go hok).congr (mem_filter_ne hni)
theorem R2.Bs (k : Step P oi ⟨n, restr (readsOf ops oi) t, h⟩ (fun s' => R2 P ops K n hro todo t s'.h)) (hi : ops[i]? = some oi := by rfl) (hd : oi.dst = none := by rfl) (hr : (i :: todo).filter (rdy ops (i :: todo)) = [i] := by decide +kernel)
    (hw : Wanted ops (restr (readsOf ops oi) t) oi true := by first | exact wanted_n rfl | exact wanted_p rfl rfl rfl (by first | rfl | exact decide_eq_true (by assumption) | exact decide_eq_false (by assumption) | (simp; done) | (simp; omega) | fail) | fail) (hni : inL todo i = false := by rfl) : R2 P ops K n hro (i :: todo) t h := .mk <| fun hok =>
  DR.core hok (fun e => by cases e) fun j hj hrj => by
    have := only_spec hr j hj hrj; subst this
    rw [readsAt_eq hi]
    refine ⟨fun _ h' => R2 P ops K n hro todo t h', eop_store hi hw k hd, fun v h' hv => ?_⟩
    rw [dstAt_eq hi, hd]
    exact (hv.go hok).congr (mem_filter_ne hni)
/-- Two may come up: the first and another one. -/
theorem R2.B2 {j dj : Nat} {oj : Oper} {l2 : List Nat} (ki : Step P oi ⟨n, restr (readsOf ops oi) t, h⟩ (fun s' => ∃ v, get s'.t d = some v ∧ R2 P ops K n hro todo ((d, v) :: t) s'.h))
    (kj : Step P oj ⟨n, restr (readsOf ops oj) t, h⟩ (fun s' => ∃ v, get s'.t dj = some v ∧ R2 P ops K n hro l2 ((dj, v) :: t) s'.h)) (hl : Sn l2 j (i :: todo)) 
    (hi : ops[i]? = some oi := by rfl) (hd : oi.dst = some d := by rfl) (hj : ops[j]? = some oj := by rfl) (hdj : oj.dst = some dj := by rfl) (hr : (i :: todo).filter (rdy ops (i :: todo)) = [i, j] := by decide +kernel)
    (hwi : Wanted ops (restr (readsOf ops oi) t) oi true := by first | exact wanted_n rfl | exact wanted_p rfl rfl rfl (by first | rfl | exact decide_eq_true (by assumption) | exact decide_eq_false (by assumption) | (simp; done) | (simp; omega) | fail) | fail)
    (hwj : Wanted ops (restr (readsOf ops oj) t) oj true := by first | exact wanted_n rfl | exact wanted_p rfl rfl rfl (by first | rfl | exact decide_eq_true (by assumption) | exact decide_eq_false (by assumption) | (simp; done) | (simp; omega) | fail) | fail) (hn : Nat.blt d n = true := by rfl) (hnj : Nat.blt dj n = true := by rfl) (hni : inL todo i = false := by rfl) (hnl : inL l2 j = false := by rfl) : R2 P ops K n hro (i :: todo) t h := .mk <| fun hok =>
  DR.core hok (fun e => by cases e) fun q hq hrq => by
    have : q ∈ (i :: todo).filter (rdy ops (i :: todo)) := List.mem_filter.2 ⟨hq, hrq⟩
    rw [hr] at this
    simp at this
    rcases this with rfl | rfl
    · rw [readsAt_eq hi]
      refine ⟨_, eop_step hi hwi ki hd hn, fun v h' hv => ?_⟩
      rw [dstAt_eq hi, hd]
      exact (hv.go hok).congr (mem_filter_ne hni)
    · rw [readsAt_eq hj]
      refine ⟨_, eop_step hj hwj kj hdj hnj, fun v h' hv => ?_⟩
      rw [dstAt_eq hj, hdj]
      refine (hv.go hok).congr fun x => ?_
      rw [List.mem_filter, ← hl.mem x, ← List.mem_filter (p := fun y => !Nat.beq y q)]
      exact mem_filter_ne hnl x
theorem kd {tr : List (Nat × AV)} {h' : Heap} (k : R2 P ops K n hro todo ((d, v) :: t) h') : ∃ v', get (⟨n, (d, v) :: tr, h'⟩ : St).t d = some v' ∧ R2 P ops K n hro todo ((d, v') :: t) (⟨n, (d, v) :: tr, h'⟩ : St).h := ⟨v, by rw [get_eq, if_pos rfl], k⟩
theorem kf {tr : List (Nat × AV)} {h' : Heap} (k : LeH h' hro) : get (⟨n, (d, v) :: tr, h'⟩ : St).t d = some v ∧ LeH (⟨n, (d, v) :: tr, h'⟩ : St).h hro := ⟨by rw [get_eq, if_pos rfl], k⟩
def effOp : Op → Bool
  | .alloc _ | .box _ _ | .buildSlice _ _ _ | .makeSlice _ _ _ | .makeMap _ _ => true
  | _ => false
theorem r2e (k : R2 P ops K n hro (i :: todo) t h) (hi : ops[i]? = some oi := by rfl) (hk : effOp oi.op = true := by rfl) : R2 P ops K n hro (i :: todo) t h := k
def laterQ (ops : Array Oper) (todo : List Nat) : Bool := todo.any fun j => rdy ops todo j && match ops[j]? with | some o => quietOp o.op | none => false
def laterN (ops : Array Oper) (todo : List Nat) : Bool := todo.any fun j => rdy ops todo j && match ops[j]? with | some o => quietOp o.op && (match o.op with | .load _ _ => false | _ => true) | none => false
theorem R2.laterN (k : R2 P ops K n hro todo' t h) (hl : VM.laterN ops (i :: todo) = true := by decide +kernel) (hs : Sn todo i todo' := by (repeat (first | apply Sn.nil | apply Sn.cons))) : R2 P ops K n hro (i :: todo) t h := k.rot hs
theorem R2.later (k : R2 P ops K n hro todo' t h) (hl : VM.laterQ ops (i :: todo) = true := by decide +kernel) (hs : Sn todo i todo' := by (repeat (first | apply Sn.nil | apply Sn.cons))) : R2 P ops K n hro (i :: todo) t h := k.rot hs
theorem DR.congt {t' : List (Nat × AV)} (hm : ∀ x, get t' x = get t x) (k : DR P ops K n hro todo t' h) : DR P ops K n hro todo t h := fun m0 w0 m a w act pend fuel c hf =>
  k m0 w0 m a w act pend fuel { c with
    i2 := fun x v hv => c.i2 x v ((hm x).symm.trans hv)
    i4 := fun p hp x hx => (hm x).trans (c.i4 p hp x hx) } hf
theorem get_same {d' : Nat} {v : AV} (hv : get t d' = some v) : ∀ x, get ((d', v) :: t) x = get t x := fun x => by
  rw [get_eq]
  by_cases e : d' = x
  · subst e; rw [if_pos rfl, hv]
  · rw [if_neg e]
theorem R2.G {j d' : Nat} {w : Bool} {p : Prop} {dp : Decidable p} (h1 : p → R2 P ops K n hro (i :: todo) ((d', .val (.bool true)) :: t) h) (h2 : ¬ p → R2 P ops K n hro (i :: todo) ((d', .val (.bool false)) :: t) h) (hi : ops[i]? = some oi := by rfl) (hg : oi.guard = some (j, w) := by rfl) (hj : dstAt ops j = some d' := by rfl) (hv : get t d' = some (.val (.bool (@decide p dp))) := by rfl) : R2 P ops K n hro (i :: todo) t h := by
  by_cases hp : p
  · have := h1 hp
    exact .mk fun hok => (this.go hok).congt (get_same (by rw [hv]; simp [hp]))
  · have := h2 hp
    exact .mk fun hok => (this.go hok).congt (get_same (by rw [hv]; simp [hp]))
theorem r2l {lt ty : Nat} {x : Operand} {pos : String} {af : Array Edge} {gd : Option (Nat × Bool)} {d : Option Nat} (k : R2 P ops K n hro (i :: todo) t h) (hi : ops[i]? = some ⟨d, .load lt x, ty, pos, af, gd⟩ := by rfl) : R2 P ops K n hro (i :: todo) t h := k
def meltOk (ops : Array Oper) (todo : List Nat) : Bool :=
  let ms := masks ops.toList []
  todo.all fun i => !rdy ops todo i || (List.range ops.size).all fun j => inL todo j || (ms.getD i 0).testBit j
/-- All that was put off has come up before whatever comes now: all of the heap is at hand. -/
theorem DR.melt (hok : okR ops = true) (hm : meltOk ops todo = true) (k : DR P ops K n [] todo t (hro ++ h)) : DR P ops K n hro todo t h := by
  intro m0 w0 m a w act pend fuel c hf
  induction fuel generalizing m a w act pend with
  | zero =>
    have hp : pend = [] := by
      cases pend with
      | nil => rfl
      | cons p r =>
        have := left_lt (n := ops.size) c.sz (c.un p (by simp)); omega
    subst hp
    exact k m0 w0 m a w act [] 0 { c with ev := by simp, i3 := by simp, i3r := by simp, i4 := by simp, i5 := by simp } hf
  | succ fuel ih =>
    cases hp : pend with
    | nil =>
      subst hp
      exact k m0 w0 m a w act [] (fuel + 1) { c with ev := by simp, i3 := by simp, i3r := by simp, i4 := by simp, i5 := by simp } hf
    | cons p0 r0 =>
      have hne : pend ≠ [] := by simp [hp]
      refine ⟨fun hr => ?_, fun i hi => ?_⟩
      · obtain ⟨q, _, hq⟩ := c.some_ready hok hne
        rw [hr] at hq; cases hq
      · have h0 := (mem_ready.1 hi).1
        have hleft := left_lt (n := ops.size) c.sz h0
        by_cases hpi : ∃ p ∈ pend, p.1 = i
        · obtain ⟨p, hpm, rfl⟩ := hpi
          obtain ⟨l, r, hlr⟩ := split_of hpm
          refine wpOp_mono ?_ (c.perform hok hlr hi _)
          rintro a' w' ⟨m', c'⟩
          exact ih _ _ _ _ _ c' (by omega)
        · exfalso
          have hpn : ∀ p ∈ pend, p.1 ≠ i := fun p hpp e => hpi ⟨p, hpp, e⟩
          obtain ⟨ht, hrd⟩ := c.ready_v hi hpn
          have hp0 : p0 ∈ pend := by simp [hp]
          obtain ⟨q1, q2⟩ := c.listed hp0
          have h1 := List.all_eq_true.1 hm i ht
          simp only [hrd, Bool.not_true, Bool.false_or] at h1
          have h2 := List.all_eq_true.1 h1 p0.1 (List.mem_range.2 q1)
          simp only [Bool.or_eq_true] at h2
          rcases h2 with h2 | h2
          · exact q2 (inL_iff.1 h2)
          · exact c.not_act hp0 (c.anc_act hi h2 (hpn p0 hp0))
theorem R2.melt {h' : Heap} (k : R2 P ops K n [] todo t h') (hm : meltOk ops todo = true := by decide +kernel) (ha : App hro h h' := by repeat (first | apply App.nil | apply App.cons)) : R2 P ops K n hro todo t h := .mk <| fun hok =>
  DR.melt hok hm (by rw [ha.eq]; exact k.go hok)
def wrOp : Op → Bool
  | .store _ _ _ | .mapUpdate _ _ _ _ => true
  | .call ⟨.builtin .append, _, _⟩ | .call ⟨.builtin .copy, _, _⟩ | .call ⟨.builtin .delete, _, _⟩ => true
  | _ => false
theorem r2w (k : R2 P ops K n hro (i :: todo) t h) (hi : ops[i]? = some oi := by rfl) (hk : wrOp oi.op = true := by rfl) : R2 P ops K n hro (i :: todo) t h := k
/-- What was there before is written behind all else alone. -/
def regOk (ops : Array Oper) : Bool :=
  let ms := masks ops.toList []
  let late := fun i => (List.range i).all fun j => (ms.getD i 0).testBit j
  ops.toList.zipIdx.all fun (o, i) => match o.op with
    | .store _ (.tmp d) _ => (ops.any fun q => (match q.dst with | some d' => Nat.beq d d' | none => false) && match q.op with | .alloc _ | .box _ _ => true | _ => false) || late i
    | .mapEntry _ _ _ | .entryStore _ _ _ _ => false
    | o => !wrOp o || late i
theorem drg {s : St} {id : Nat} {Q : Exit → St → Prop} (k : W P (.region id ops true) Q s) (hk : regOk ops = true := by decide +kernel) : W P (.region id ops true) Q s := k
/-- All is done. -/
theorem R2.E {h' : Heap} (k : K ⟨n, t, h'⟩) (ha : App hro h h' := by repeat (first | apply App.nil | apply App.cons)) : R2 P ops K n hro [] t h := .mk <| fun hok =>
  DR.core hok (fun _ => by rw [ha.eq]; exact k) (fun i hi => by cases hi)
/-- From here on an entry is only read. -/
theorem R2.fix {x : OE} (k : R2 P ops K n (x :: hro) todo t h) : R2 P ops K n hro todo t (x :: h) := .mk <| fun hok m0 w0 m a w act pend fuel c hf =>
  k.go hok m0 w0 m a w act pend fuel { c with
    base := c.base.permh List.perm_middle.symm
    ev := fun p hp => ⟨(c.ev p hp).1, fun m0 w0 m' a w h1 g hs Q => by
      have := (c.ev p hp).2 m0 w0 m' a w (x :: h1) g (hs.permh List.perm_middle) Q
      refine wpOp_mono ?_ this
      rintro a' w' ⟨m2, u, g1, g2, g3, g4⟩
      exact ⟨m2, u, g1, g2, g3, g4.permh List.perm_middle.symm⟩⟩ } hf
theorem R2.gt' {j : Nat} {p : Prop} {dp : Decidable p} (hg : get t j = some (.val (.bool (@decide p dp)))) (h1 : p → R2 P ops K n hro todo t h) (h2 : ¬ p → R2 P ops K n hro todo t h) : R2 P ops K n hro todo t h := by
  by_cases hp : p
  · exact h1 hp
  · exact h2 hp
theorem W.dr {hp rest : Heap} {id : Nat} {Q : Exit → St → Prop} [hm : TMix P] (sel : Sel hp hro rest) (k : R2 P ops (Q .normal) n hro todo t rest) (ht : List.range ops.size = todo := by simp only [List.size_toArray, List.length_cons, List.length_nil, Nat.reduceAdd, List.range, List.range.loop]; rfl) (hok : okR ops = true := by decide +kernel) : W P (.region id ops true) Q ⟨n, t, hp⟩ := by
  subst ht
  exact W.dr0 sel (k.go hok)
theorem RL.gu {rest : List Oper} {j g d : Nat} {o : Oper} {want : Bool} {K : St → Prop} (hg : o.guard = some (j, want)) (hj : (ops[j]?).bind (·.dst) = some g) (hgv : get t g = some (.tup [])) (hd : o.dst = some d) (hn : Nat.blt d n = true)
    (h2 : RL P ops rest ⟨n, (d, .tup []) :: t, h⟩ K) : RL P ops (o :: rest) ⟨n, t, h⟩ K := by
  intro i hi m0 w0 a w hs Q hQ
  obtain ⟨e1, e2⟩ := drop_cons hi
  have h1' : ops[i]? = some o := by simpa using e1
  rw [List.length_cons, List.range'_succ, wpOps_cons]
  obtain ⟨m, hm⟩ := hs
  have hy : yielded ops a.tmps j = none := by
    obtain ⟨u, g1, g2⟩ := hm.tmps g _ hgv
    simp only [Rel, RelL] at g2
    obtain ⟨cs, rfl, _⟩ := g2
    simp [yielded, hj, g1]
  unfold wpOp
  simp only [h1']
  rw [if_neg (by simp [Region.wanted, hg, hy])]
  have := hm.put (dst := o.dst) (by rw [hd]; exact hn) rel_undef
  rw [hd] at this ⊢
  exact h2 _ e2 _ _ _ _ ⟨m, this⟩ Q hQ
theorem iR2 (k : R2 P ops K n hro todo t h) : R2 P ops K n hro todo t h := k
theorem r2h (k : R2 P ops K n hro (i :: todo) t h) (hi : ops[i]? = some oi := by rfl) (hk : quietOp oi.op = true := by rfl) : R2 P ops K n hro (i :: todo) t h := k
end
end Go.VM
