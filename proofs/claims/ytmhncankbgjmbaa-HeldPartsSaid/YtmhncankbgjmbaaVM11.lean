import Derived.Test.YtmhncankbgjmbaaVM10
import Derived.Laws.Cover3
namespace Go.VM
open Go
set_option linter.unusedVariables false
set_option linter.unusedSimpArgs false
/-! ### An owned slice becomes immutable -/
inductive Frz (v : Value) (k : Nat) (l : List AV) : AV → AV → Prop
  | keep (x : AV) : Frz v k l x x
  | hit : Frz v k l (.val v) (.ro k l)
  | aggn : Frz v k l (.agg []) (.agg [])
  | aggc {x y : AV} {r q : List AV} (h : Frz v k l x y) (hr : Frz v k l (.agg r) (.agg q)) : Frz v k l (.agg (x :: r)) (.agg (y :: q))
  | tupn : Frz v k l (.tup []) (.tup [])
  | tupc {x y : AV} {r q : List AV} (h : Frz v k l x y) (hr : Frz v k l (.tup r) (.tup q)) : Frz v k l (.tup (x :: r)) (.tup (y :: q))
theorem Frz.rel {v : Value} {k : Nat} {l : List AV} {x y : AV} (h : Frz v k l x y) {m m' : Ghost} (hm : Gle m m') (hv : Rel m' (.ro k l) v) : ∀ u, Rel m x u → Rel m' y u := by
  induction h with
  | keep x => exact fun u h => h.mono hm
  | hit => intro u h; simp only [Rel] at h; obtain ⟨rfl, _⟩ := h; exact hv
  | aggn => exact fun u h => h.mono hm
  | aggc _ _ ih1 ih2 =>
    intro u h
    simp only [Rel, RelL] at h ⊢
    obtain ⟨cs, rfl, c, r, e, h1, h2⟩ := h
    refine ⟨cs, rfl, c, r, e, ih1 c h1, ?_⟩
    have := ih2 (.agg r.toArray) (by simp only [Rel]; exact ⟨_, rfl, by simpa using h2⟩)
    simp only [Rel] at this
    obtain ⟨cs', e', h3⟩ := this
    injection e' with e'
    subst e'
    simpa using h3
  | tupn => exact fun u h => h.mono hm
  | tupc _ _ ih1 ih2 =>
    intro u h
    simp only [Rel, RelL] at h ⊢
    obtain ⟨cs, rfl, c, r, e, h1, h2⟩ := h
    refine ⟨cs, rfl, c, r, e, ih1 c h1, ?_⟩
    have := ih2 (.tuple r.toArray) (by simp only [Rel]; exact ⟨_, rfl, by simpa using h2⟩)
    simp only [Rel] at this
    obtain ⟨cs', e', h3⟩ := this
    injection e' with e'
    subst e'
    simpa using h3
/-- An owned slice, under a ghost that has its block. -/
theorem own_ro {m m' : Ghost} {w : World} {v : Value} {k e : Nat} {l : List AV} (h : OERel m w (.own v k l e)) (hm : Gle m m') (hb : ∀ b, ownBlk v = some b → m' b = w.heap[b]?) : Rel m' (.ro k l) v := by
  simp only [Rel]
  rcases h.own_cases with ⟨A, rfl, rfl⟩ | ⟨g, cap, cur, xs, rfl, hc, q7, q8, q9, q10, q11, q12, q4, q5, q6, _⟩
  · exact ⟨A, 0, rfl, Nat.le_refl _, Nat.zero_le _, fun _ => rfl, fun h => absurd rfl h⟩
  · refine ⟨_, cap, rfl, q8, q9, fun h => (by cases h), fun _ => ⟨g, 0, cur, e, (0, 0), rfl, (hb g q6).trans q7, ?_, ?_, ?_⟩⟩
    · rw [q10, Nat.zero_add]; exact Nat.mul_le_mul_right _ q8
    · rw [List.drop_zero, q11]; exact q4.mono hm
    · rw [List.drop_zero, q11]; exact q5
theorem Tk.nodup {h r : Heap} {x : OE} (t : Tk h x r) (nd : (h.filterMap OE.blk).Nodup) : ∀ b, x.blk = some b → ∀ y ∈ r, y.blk ≠ some b := by
  intro b hb y hy hyb
  have p := (t.perm.filterMap OE.blk).nodup_iff.2 nd
  rw [List.filterMap_cons_some hb] at p
  exact (List.nodup_cons.1 p).1 (mem_blks.2 ⟨y, hy, hyb⟩)
theorem ACalls.frz {P : Program} {f : Nat} {args : List AV} {h : Heap} {Q Q' : AV → Heap → Prop} (hc : ACalls P f args h Q)
    (hq : ∀ r h', Q r h' → ∃ v k l e r' h1, Tk h' (.own v k l e) h1 ∧ Frz v k l r r' ∧ Q' r' h1) : ACalls P f args h Q' := by
  intro m w vs h1 h2 h3
  refine (hc m w vs h1 h2 h3).mono ?_
  rintro en w' ⟨m', u, r, h', rfl, g1, g2, g3, g4, g5, g6, g7⟩
  obtain ⟨v, k, l, e, r', hh, t1, t2, t3⟩ := hq r h' g7
  have hown := g5.2 _ t1.old
  let m'' : Ghost := fun b => if ownBlk v = some b then w'.heap[b]? else m' b
  have hle : Gle m' m'' := fun b o hb => by
    show (if ownBlk v = some b then w'.heap[b]? else m' b) = some o
    rw [if_neg (fun hv => by rw [hown.1 b hv] at hb; cases hb)]; exact hb
  have hat : ∀ b, ownBlk v = some b → m'' b = w'.heap[b]? := fun b hb => if_pos hb
  refine ⟨m'', u, r', hh, rfl, g1.trans hle, fun b o hb => ?_, g3, t2.rel hle (own_ro hown.2 hle hat) u g4, ?_, ⟨fun b o hb => ?_, g6.frame, fun x hx b hb => g6.own x (t1.sub.subset hx) b hb⟩, t3⟩
  · have hb : (if ownBlk v = some b then w'.heap[b]? else m' b) = some o := hb
    split at hb
    · exact hb
    · exact g2 b o hb
  · refine HRel.mono hle (g5.sub t1.sub) fun x hx b hb => ?_
    show (if ownBlk v = some b then w'.heap[b]? else m' b) = none
    rw [if_neg (show ¬ ownBlk v = some b from fun hv => t1.nodup g5.1 b hv x hx hb)]
    exact (g5.2 x (t1.sub.subset hx)).1 b hb
  · have hb : (if ownBlk v = some b then w'.heap[b]? else m' b) = some o := hb
    split at hb
    · rename_i hv
      right
      exact g6.own _ t1.old b hv
    · exact g6.grow b o hb
theorem ACalls.frzo {P : Program} {f : Nat} {args : List AV} {h : Heap} {Q Q' : AV → Heap → Prop} (hc : ACalls P f args h Q)
    (hq : ∀ r h', Q r h' → Q' r h' ∨ ∃ v k l e r' h1, Tk h' (.own v k l e) h1 ∧ Frz v k l r r' ∧ Q' r' h1) : ACalls P f args h Q' := by
  intro m w vs h1 h2 h3
  refine (hc m w vs h1 h2 h3).mono ?_
  rintro en w' ⟨m', u, r, h', rfl, g1, g2, g3, g4, g5, g6, g7⟩
  rcases hq r h' g7 with q | ⟨v, k, l, e, r', hh, t1, t2, t3⟩
  · exact ⟨m', u, r, h', rfl, g1, g2, g3, g4, g5, g6, q⟩
  have hown := g5.2 _ t1.old
  let m'' : Ghost := fun b => if ownBlk v = some b then w'.heap[b]? else m' b
  have hle : Gle m' m'' := fun b o hb => by
    show (if ownBlk v = some b then w'.heap[b]? else m' b) = some o
    rw [if_neg (fun hv => by rw [hown.1 b hv] at hb; cases hb)]; exact hb
  have hat : ∀ b, ownBlk v = some b → m'' b = w'.heap[b]? := fun b hb => if_pos hb
  refine ⟨m'', u, r', hh, rfl, g1.trans hle, fun b o hb => ?_, g3, t2.rel hle (own_ro hown.2 hle hat) u g4, ?_, ⟨fun b o hb => ?_, g6.frame, fun x hx b hb => g6.own x (t1.sub.subset hx) b hb⟩, t3⟩
  · have hb : (if ownBlk v = some b then w'.heap[b]? else m' b) = some o := hb
    split at hb
    · exact hb
    · exact g2 b o hb
  · refine HRel.mono hle (g5.sub t1.sub) fun x hx b hb => ?_
    show (if ownBlk v = some b then w'.heap[b]? else m' b) = none
    rw [if_neg (show ¬ ownBlk v = some b from fun hv => t1.nodup g5.1 b hv x hx hb)]
    exact (g5.2 x (t1.sub.subset hx)).1 b hb
  · have hb : (if ownBlk v = some b then w'.heap[b]? else m' b) = some o := hb
    split at hb
    · rename_i hv
      right
      exact g6.own _ t1.old b hv
    · exact g6.grow b o hb
/-! ### Calls that look alone at what is owned -/
def Sc (x : AV) : Prop := ∀ m m' u, Rel m x u → Rel m' x u
theorem sc_val (v : Value) : Sc (.val v) := fun m m' u h => by simpa only [Rel] using h
theorem sc_agg {l : List AV} (h : ∀ x ∈ l, Sc x) : Sc (.agg l) := fun m m' u k => by
  simp only [Rel] at k ⊢
  obtain ⟨cs, rfl, k⟩ := k
  refine ⟨cs, rfl, relL_of_at k.length fun i x c hx hc => ?_⟩
  obtain ⟨c', h1, h2⟩ := k.at i x hx
  rw [h1] at hc; injection hc with hc; subst hc
  exact h x (List.mem_of_getElem? hx) m m' _ h2
theorem sc_tup {l : List AV} (h : ∀ x ∈ l, Sc x) : Sc (.tup l) := fun m m' u k => by
  simp only [Rel] at k ⊢
  obtain ⟨cs, rfl, k⟩ := k
  refine ⟨cs, rfl, relL_of_at k.length fun i x c hx hc => ?_⟩
  obtain ⟨c', h1, h2⟩ := k.at i x hx
  rw [h1] at hc; injection hc with hc; subst hc
  exact h x (List.mem_of_getElem? hx) m m' _ h2
theorem sc_relE {m m' : Ghost} {k : Nat} : ∀ {l : List AV} {cs : List Value}, (∀ x ∈ l, Sc x) → RelE m k l cs → RelE m' k l cs
  | [], cs, _, h => by simpa only [RelE] using h
  | x :: l, cs, hs, h => by
    simp only [RelE] at h ⊢
    obtain ⟨v, r, e, h1, h2, h3⟩ := h
    exact ⟨v, r, e, h1, hs x (by simp) _ _ _ h2, sc_relE (fun y hy => hs y (by simp [hy])) h3⟩
def ScE (x : OE) : Prop := ∀ m m' w, OERel m w x → OERel m' w x
theorem sc_own {v : Value} {k e : Nat} {l : List AV} (h : ∀ x ∈ l, Sc x) : ScE (.own v k l e) := fun m m' w q => by
  simp only [OERel] at q ⊢
  rcases q with q | ⟨b, kb, xs, k1, k2, k3⟩
  · exact .inl q
  · exact .inr ⟨b, kb, xs, k1, sc_relE h k2, k3⟩
theorem sc_ints (k : IntKind) (xs : List Int) : ∀ x ∈ ints k xs, Sc x := by
  intro x hx
  obtain ⟨n, _, rfl⟩ := List.mem_map.1 hx
  exact sc_val _
inductive Bor (h : Heap) : List AV → List AV → Prop
  | nil : Bor h [] []
  | own {v : Value} {k e : Nat} {l : List AV} {r r' : List AV} (hb : OE.own v k l e ∈ h) (hr : Bor h r r') : Bor h (.val v :: r) (.ro k l :: r')
  | vw {v : Value} {k e lo n : Nat} {l : List AV} {r r' : List AV} (hb : OE.own v k l e ∈ h) (hn : lo + n ≤ l.length) (hr : Bor h r r') : Bor h (.vw v k lo n :: r) (.ro k ((l.drop lo).take n) :: r')
  | same {x : AV} {r r' : List AV} (hr : Bor h r r') : Bor h (x :: r) (x :: r')
theorem Bor.rel {h : Heap} {vs vs' : List AV} (b : Bor h vs vs') {m m' : Ghost} {w : World} (hh : HRel m h w) (hm : Gle m m') (hb : ∀ x ∈ h, ∀ b, x.blk = some b → m' b = w.heap[b]?) : ∀ us, RelL m vs us → RelL m' vs' us := by
  induction b with
  | nil => intro us h; simpa only [RelL] using h
  | @own v k e l r r' hb' _ ih =>
    intro us q
    simp only [RelL] at q ⊢
    obtain ⟨c, q', rfl, q1, q2⟩ := q
    simp only [Rel] at q1
    obtain ⟨rfl, _⟩ := q1
    exact ⟨_, _, rfl, own_ro (hh.2 _ hb').2 hm (hb _ hb'), ih _ q2⟩
  | @vw v k e lo n l r r' hb' hn _ ih =>
    intro us q
    simp only [RelL] at q ⊢
    obtain ⟨c, q', rfl, q1, q2⟩ := q
    refine ⟨_, _, rfl, ?_, ih _ q2⟩
    have hlen : ((l.drop lo).take n).length = n := by rw [List.length_take, List.length_drop]; omega
    simp only [Rel] at q1 ⊢
    obtain ⟨A, c, rfl, h1, h2, h3, h4⟩ := q1
    rw [hlen]
    refine ⟨A, c, rfl, h1, h2, h3, fun hne => ?_⟩
    have hpos : 0 < n := by rw [← hlen]; exact List.length_pos_iff.2 hne
    obtain ⟨g, N, cap, rfl, rfl, h5⟩ := h4 hpos
    rcases (hh.2 _ hb').2.own_cases with ⟨A, _, rfl⟩ | ⟨b', cap', cur, xs, q6, _, q7, q8, q9, q10, q11, q12, q4, q5, q13, _⟩
    · simp at hn; omega
    injection q6 with q6 qN qc
    injection q6 with q6
    injection q6 with q6
    subst q6; subst qN; subst qc
    have hk1 : lo * k + n * k ≤ l.length * k := by rw [← Nat.add_mul]; exact Nat.mul_le_mul_right _ hn
    have hk2 : l.length * k ≤ cap * k := Nat.mul_le_mul_right _ q8
    have e1 : (cur.toList.drop (lo * k)).take (n * k) = (xs.drop (lo * k)).take (n * k) := by
      rw [← q11, List.drop_take, List.take_take, Nat.min_eq_left (by omega)]
    refine ⟨g, lo * k, cur, _, _, rfl, (hb _ hb' g q13).trans q7, by omega, ?_, ?_⟩
    · rw [e1]; exact ((q4.mono hm).drop lo).take n
    · rw [e1]; exact fun y hy => q5 y (List.mem_of_mem_drop (List.mem_of_mem_take hy))
  | same _ ih =>
    intro us q
    simp only [RelL] at q ⊢
    obtain ⟨c, q', rfl, q1, q2⟩ := q
    exact ⟨_, _, rfl, q1.mono hm, ih _ q2⟩
section
variable {P : Program} {n : Nat} {t : List (Nat × AV)} {h : Heap} {K : St → Prop} {d : Nat} {ty : Nat} {pos : String} {af : Array Edge} {gd : Option (Nat × Bool)} {x y : Operand}
theorem acalls_b {f : Nat} {vs vs' : List AV} {Q : AV → Heap → Prop} (hb : Bor h vs vs') (hc : ACalls P f vs' [] Q) (hQ : ∀ r hr, Q r hr → Sc r ∧ ∀ x ∈ hr, ScE x) : ACalls P f vs h (fun r h' => ∃ hr, h' = hr ++ h ∧ Q r hr) := by
  intro m w us h1 h2 h3
  let m1 : Ghost := fun b => if b ∈ h.filterMap OE.blk then w.heap[b]? else m b
  have hle : Gle m m1 := fun b o hb => by
    show (if b ∈ h.filterMap OE.blk then w.heap[b]? else m b) = some o
    split
    · exact h1 b o hb
    · exact hb
  have hat : ∀ x ∈ h, ∀ b, x.blk = some b → m1 b = w.heap[b]? := fun x hx b hb => if_pos (mem_blks.2 ⟨x, hx, hb⟩)
  have hold : Holds m1 w := fun b o hb => by
    have hb : (if b ∈ h.filterMap OE.blk then w.heap[b]? else m b) = some o := hb
    split at hb
    · exact hb
    · exact h1 b o hb
  refine (hc m1 w us hold (hb.rel h3 hle hat us h2) ⟨by simp, fun x hx => by simp at hx⟩).mono ?_
  rintro en w' ⟨m', u, r, hr, rfl, g1, g2, g3, g4, g5, g6, g7⟩
  obtain ⟨s1, s2⟩ := hQ r hr g7
  have hfr : ∀ b, b < w.heap.size → w'.heap[b]? = w.heap[b]? := fun b hb => g6.frame b hb (by simp)
  have hnew : ∀ x ∈ hr, ∀ b, x.blk = some b → w.heap.size ≤ b := fun x hx b hb => by
    rcases g6.own x hx b hb with h | h
    · simp at h
    · exact h
  refine ⟨m, u, r, hr ++ h, rfl, Gle.refl m, fun b o hb => (hfr b (h1.lt hb)).trans (h1 b o hb), g3, s1 _ _ _ g4, ⟨?_, fun x hx => ?_⟩, ⟨fun b o hb => .inl hb, fun b hb _ => hfr b hb, fun x hx b hb => ?_⟩, hr, rfl, g7⟩
  · rw [List.filterMap_append, List.nodup_append]
    refine ⟨g5.1, h3.1, fun b hb c hcc e => ?_⟩
    subst e
    obtain ⟨x, hx, hxb⟩ := mem_blks.1 hb
    obtain ⟨y, hy, hyb⟩ := mem_blks.1 hcc
    have := hnew x hx b hxb
    have := (h3.2 y hy).2.lt hyb
    omega
  · rw [List.mem_append] at hx
    rcases hx with hx | hx
    · refine ⟨fun b hb => ?_, s2 x hx _ _ _ (g5.2 x hx).2⟩
      cases hmb : m b with
      | none => rfl
      | some o => have := h1.lt hmb; have := hnew x hx b hb; omega
    · exact ⟨(h3.2 x hx).1, (h3.2 x hx).2.local fun b hb => hfr b ((h3.2 x hx).2.lt hb)⟩
  · rw [List.mem_append] at hx
    rcases hx with hx | hx
    · exact .inr (hnew x hx b hb)
    · exact .inl ⟨x, hx, hb⟩
/-! ### Branches meet again -/
theorem W.mid {P : Program} {X : Type} {a b : Code} {Q : Exit → St → Prop} {s : St} (J : X → St) (Φ : X → Prop) (h1 : W P a (Then (fun s' => ∃ x, Φ x ∧ Le s' (J x)) Q) s) (h2 : ∀ x, Φ x → W P b Q (J x)) : W P (.seq a b) Q s := by
  refine W.seq ?_
  intro m0 w0 a' w hs
  refine wp_mono (h1 m0 w0 a' w hs) fun e a2 w2 ⟨s', q1, q2⟩ => ⟨s', ?_, q2⟩
  cases e with
  | normal =>
    obtain ⟨x, hx, hle⟩ := q1
    exact W.le hle (h2 x hx)
  | _ => exact q1
/-! ### Is a slice nil? -/
theorem S.nilq {xt yt e k bs : Nat} {g : Bool} {l : List AV} {v : AV} [he : TElem P xt e k bs g] (hK : ∀ b : Bool, (b = true → l = []) → K ⟨n, (d, .val (.bool b)) :: t, h⟩) (hx : evalA t x = some v := by rfl) (hs : SrcA h k v l := by first | exact SrcA.ro _ | exact SrcA.own (by (fail_if_success (apply memG)); repeat (first | exact List.Mem.head _ | assumption | refine List.Mem.tail _ ?_)) | exact SrcA.vw (by (fail_if_success (apply memG)); repeat (first | exact List.Mem.head _ | assumption | refine List.Mem.tail _ ?_)) (by first | omega | (simp only [ints, splice, List.length_map, List.length_append, List.length_cons, List.length_nil, List.length_take, List.length_drop, List.length_set, List.length_replicate]; omega)) | exact SrcA.emp | exact SrcA.nil | exact SrcA.all (by assumption)) (hn : Nat.blt d n = true := by rfl) :
    Step P ⟨some d, .binOp .eql xt x (.const (.slice none 0 0)) yt, ty, pos, af, gd⟩ ⟨n, t, h⟩ K := by
  intro m0 w0 a w ⟨m, hsim⟩ Q
  obtain ⟨A, c, ys, hu, h1, h2, _, _, h3, _⟩ := hs.spec hsim.holds hsim.heap (hsim.tmps.eval hx)
  unfold Oper.wp
  have hq : (Op.equal xt (.slice A l.length c) (.slice none 0 0)).run P w = .ok A.isNone w := run_equal_slice_nil w xt e A l.length c (elemQ_spec he.h).1
  have hrr : (execOp a.eval ⟨some d, .binOp .eql xt x (.const (.slice none 0 0)) yt, ty, pos, af, gd⟩).run P w = .ok (.value (.bool A.isNone)) w := by
    have hc : a.eval (.const (.slice none 0 0)) = .slice none 0 0 := rfl
    simp only [execOp, hu, hc]
    simp [eqGuard, binOp, hq]
  rw [hrr]
  refine ⟨_, hK A.isNone (fun hb => ?_), m, SimG.put (s := ⟨n, t, h⟩) hsim (dst := some d) hn (rel_val rfl)⟩
  have : A = none := by cases A <;> simp_all
  have := h3 this
  exact List.eq_nil_of_length_eq_zero (by omega)
theorem iZ {d : Option Nat} {s : St} {xt yt : Nat} (k : Step P ⟨d, .binOp .eql xt x (.const (.slice none 0 0)) yt, ty, pos, af, gd⟩ s K) : Step P ⟨d, .binOp .eql xt x (.const (.slice none 0 0)) yt, ty, pos, af, gd⟩ s K := k
end
end Go.VM
