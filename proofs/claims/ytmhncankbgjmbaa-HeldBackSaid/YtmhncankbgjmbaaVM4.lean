import Derived.Test.YtmhncankbgjmbaaVM3
namespace Go.VM
open Go
set_option linter.unusedVariables false
set_option linter.unusedSimpArgs false

/-! ### An entry turned into another, taken out, put in -/
inductive Up : Heap → OE → OE → Heap → Prop
  | here {x x' : OE} {r : Heap} : Up (x :: r) x x' (x' :: r)
  | there {x x' y : OE} {r r' : Heap} (h : Up r x x' r') : Up (y :: r) x x' (y :: r')
section
variable {h h' : Heap} {x x' : OE}
theorem Up.old (u : Up h x x' h') : x ∈ h := by
  induction u with
  | here => simp
  | there _ ih => simp [ih]
theorem Up.new_ (u : Up h x x' h') : x' ∈ h' := by
  induction u with
  | here => simp
  | there _ ih => simp [ih]
theorem Up.sub (u : Up h x x' h') : ∀ y ∈ h', y = x' ∨ y ∈ h := by
  induction u with
  | here => intro y hy; simp at hy; rcases hy with hy | hy <;> simp [hy]
  | there _ ih =>
    intro z hz
    simp at hz
    rcases hz with hz | hz
    · simp [hz]
    · rcases ih z hz with h | h <;> simp [h]
theorem mem_blks {h : Heap} {b : Nat} : b ∈ h.filterMap OE.blk ↔ ∃ y ∈ h, y.blk = some b := List.mem_filterMap
theorem Up.others (u : Up h x x' h') : (h.filterMap OE.blk).Nodup → ∀ y ∈ h', y = x' ∨ (y ∈ h ∧ ∀ b, y.blk = some b → x.blk ≠ some b) := by
  induction u with
  | @here x x' r =>
    intro nd y hy
    simp at hy
    rcases hy with hy | hy
    · exact .inl hy
    · refine .inr ⟨by simp [hy], fun b hb hx => ?_⟩
      rw [List.filterMap_cons_some hx] at nd
      exact (List.nodup_cons.1 nd).1 (mem_blks.2 ⟨y, hy, hb⟩)
  | @there x x' z r r' h ih =>
    intro nd y hy
    have nd' : (r.filterMap OE.blk).Nodup := (List.sublist_cons_self z r |>.filterMap _).nodup nd
    simp at hy
    rcases hy with hy | hy
    · subst hy
      refine .inr ⟨by simp, fun b hb hx => ?_⟩
      rw [List.filterMap_cons_some hb] at nd
      exact (List.nodup_cons.1 nd).1 (mem_blks.2 ⟨x, h.old, hx⟩)
    · rcases ih nd' y hy with h1 | ⟨h1, h2⟩
      · exact .inl h1
      · exact .inr ⟨by simp [h1], h2⟩
theorem Up.nodup (u : Up h x x' h') : (h.filterMap OE.blk).Nodup → (∀ b, x'.blk = some b → x.blk = some b ∨ ∀ y ∈ h, y.blk ≠ some b) → (h'.filterMap OE.blk).Nodup := by
  induction u with
  | @here x x' r =>
    intro nd hb
    have nd' : (r.filterMap OE.blk).Nodup := (List.sublist_cons_self x r |>.filterMap _).nodup nd
    cases hx : x'.blk with
    | none => rw [List.filterMap_cons_none hx]; exact nd'
    | some b =>
      rw [List.filterMap_cons_some hx]
      refine List.nodup_cons.2 ⟨fun hm => ?_, nd'⟩
      obtain ⟨y, hy, hyb⟩ := mem_blks.1 hm
      rcases hb b hx with h1 | h1
      · rw [List.filterMap_cons_some h1] at nd
        exact (List.nodup_cons.1 nd).1 (mem_blks.2 ⟨y, hy, hyb⟩)
      · exact h1 y (by simp [hy]) hyb
  | @there x x' z r r' h ih =>
    intro nd hb
    have nd' : (r.filterMap OE.blk).Nodup := (List.sublist_cons_self z r |>.filterMap _).nodup nd
    have ih' := ih nd' (fun b hx => (hb b hx).imp id (fun h y hy => h y (by simp [hy])))
    cases hz : z.blk with
    | none => rw [List.filterMap_cons_none hz]; exact ih'
    | some c =>
      rw [List.filterMap_cons_some hz] at nd ⊢
      refine List.nodup_cons.2 ⟨fun hm => ?_, ih'⟩
      obtain ⟨y, hy, hyb⟩ := mem_blks.1 hm
      rcases h.sub y hy with rfl | hy
      · rcases hb c hyb with h1 | h1
        · exact (List.nodup_cons.1 nd).1 (mem_blks.2 ⟨_, h.old, h1⟩)
        · exact h1 z (by simp) hz
      · exact (List.nodup_cons.1 nd).1 (mem_blks.2 ⟨y, hy, hyb⟩)
theorem HRel.up {m : Ghost} {w w' : World} (k : HRel m h w) (hm : Holds m w) (u : Up h x x' h') (hw : ∀ b, b < w.heap.size → x.blk ≠ some b → w'.heap[b]? = w.heap[b]?)
    (hx' : OERel m w' x') (hb : ∀ b, x'.blk = some b → x.blk = some b ∨ w.heap.size ≤ b) : HRel m h' w' := by
  refine ⟨u.nodup k.1 fun b h => (hb b h).imp id fun hle y hy hyb => ?_, fun y hy => ?_⟩
  · have := (k.2 y hy).2.lt hyb; omega
  · rcases u.others k.1 y hy with rfl | ⟨h1, h2⟩
    · refine ⟨fun b hyb => ?_, hx'⟩
      rcases hb b hyb with h3 | h3
      · exact (k.2 x u.old).1 b h3
      · cases hmb : m b with
        | none => rfl
        | some o => have := hm.lt hmb; omega
    · refine ⟨(k.2 y h1).1, (k.2 y h1).2.local fun b hyb => hw b ((k.2 y h1).2.lt hyb) (h2 b hyb)⟩
theorem HRel.cons {m : Ghost} {w w' : World} (k : HRel m h w) (hm : Holds m w) (hw : ∀ b, b < w.heap.size → w'.heap[b]? = w.heap[b]?) (hx : OERel m w' x) (hb : ∀ b, x.blk = some b → w.heap.size ≤ b) : HRel m (x :: h) w' := by
  refine ⟨?_, fun y hy => ?_⟩
  · cases hx' : x.blk with
    | none => rw [List.filterMap_cons_none hx']; exact k.1
    | some b =>
      rw [List.filterMap_cons_some hx']
      refine List.nodup_cons.2 ⟨fun hmm => ?_, k.1⟩
      obtain ⟨y, hy, hyb⟩ := mem_blks.1 hmm
      have := (k.2 y hy).2.lt hyb
      have := hb b hx'
      omega
  · simp at hy
    rcases hy with rfl | hy
    · refine ⟨fun b hyb => ?_, hx⟩
      cases hmb : m b with
      | none => rfl
      | some o => have := hm.lt hmb; have := hb b hyb; omega
    · exact ⟨(k.2 y hy).1, (k.2 y hy).2.local fun b hyb => hw b ((k.2 y hy).2.lt hyb)⟩
theorem Tk.sub (u : Tk h x h') : h'.Sublist h := by
  induction u with
  | here => exact List.sublist_cons_self _ _
  | there _ ih => exact ih.cons_cons _
theorem Tk.old (u : Tk h x h') : x ∈ h := by
  induction u with
  | here => simp
  | there _ ih => simp [ih]
end
section
variable {m0 : GF} {m : Ghost} {w0 w w' : World} {s : St} {a : Act} {h' : Heap} {x x' : OE}
theorem SimG.up (k : SimG m0 w0 m s a w) (u : Up s.h x x' h') (hs : Same w w') (hm : ∀ b o, m b = some o → w'.heap[b]? = w.heap[b]?) (hw : ∀ b, b < w.heap.size → x.blk ≠ some b → w'.heap[b]? = w.heap[b]?)
    (hx' : OERel m w' x') (hb : ∀ b, x'.blk = some b → x.blk = some b ∨ w.heap.size ≤ b) : SimG m0 w0 m { s with h := h' } a w' :=
  have hsz := k.same.size
  { k with
    holds := fun b o e => (hm b o e).trans (k.holds b o e)
    same := k.same.trans hs
    heap := k.heap.up k.holds u hw hx' hb
    frame := fun b h1 h2 => (hw b (by omega) (fun e => by rcases k.own x u.old b e with h | h; exact h2 h; omega)).trans (k.frame b h1 h2)
    own := fun y hy b hyb => by
      rcases u.sub y hy with rfl | hy
      · rcases hb b hyb with h | h
        · exact k.own x u.old b h
        · right; omega
      · exact k.own y hy b hyb }
theorem SimG.new_ (k : SimG m0 w0 m s a w) (hs : Same w w') (hw : ∀ b, b < w.heap.size → w'.heap[b]? = w.heap[b]?)
    (hx : OERel m w' x) (hb : ∀ b, x.blk = some b → w.heap.size ≤ b) : SimG m0 w0 m { s with h := x :: s.h } a w' :=
  have hsz := k.same.size
  { k with
    holds := fun b o e => (hw b (k.holds.lt e)).trans (k.holds b o e)
    same := k.same.trans hs
    heap := k.heap.cons k.holds hw hx hb
    frame := fun b h1 h2 => (hw b (by omega)).trans (k.frame b h1 h2)
    own := fun y hy b hyb => by
      simp at hy
      rcases hy with rfl | hy
      · right; have := hb b hyb; omega
      · exact k.own y hy b hyb }
end
theorem Same.alloc (w : World) (o : Obj) : Same w (w.alloc o) := ⟨rfl, rfl, rfl, by simp⟩
theorem Same.setRow (w : World) (g : Nat) (cs : Array Value) : Same w (w.setRow g cs) := ⟨rfl, rfl, rfl, by simp⟩
theorem Same.of_grown {w w' : World} {r : Option Nat} (h : w.grownBy w' r) : Same w w' := ⟨h.os, h.tape, h.output, h.size⟩
section
variable {P : Program} {t : Nat} {s : St} {K : St → Prop}
variable {d : Option Nat} {ty : Nat} {pos : String} {af : Array Edge} {gd : Option (Nat × Bool)} {h h' : Heap} {x y : Operand}
theorem zeroQ_spec {z : List AV} (h : zeroQ P t = some z) : ∃ i v, P.info? t = some i ∧ i.zero = some v ∧ z = v.cells.toList.map .val ∧ v.cells.size = i.size ∧ (∀ c ∈ v.cells.toList, c.oneCell' = true) := by
  unfold zeroQ at h
  split at h
  · rename_i i hi
    split at h
    · rename_i v hv
      split at h
      · rename_i hs
        injection h with h
        exact ⟨i, v, hi, hv, h.symm, hs.1, fun c hc => by simpa using (Array.all_eq_true_iff_forall_mem.1 hs.2) c (by simpa using hc)⟩
      · cases h
    · cases h
  · cases h
theorem heap_new (w : World) (o : Obj) : (w.alloc o).heap[w.heap.size]? = some o := heap_alloc_new w o
theorem heap_old (w : World) (o : Obj) (b : Nat) (h : b < w.heap.size) : (w.alloc o).heap[b]? = w.heap[b]? := Go.RowKit.Below.heap_alloc w o b h
theorem step_alloc {e : Nat} {z : List AV} [hz : TZero P e z] (hf : fits s d = true)
    (hK : ∀ b, K (({ s with h := .box b z e :: s.h } : St).put d (.val (.pointer (some ⟨b, 0, none⟩))))) : Step P ⟨d, .alloc e, ty, pos, af, gd⟩ s K := by
  intro m0 w0 a w ⟨m, hs⟩ Q
  obtain ⟨i, v, hi, hv, rfl, _, hone⟩ := zeroQ_spec hz.h
  unfold Oper.wp
  have hr : (execOp a.eval ⟨d, .alloc e, ty, pos, af, gd⟩).run P w = .ok (.value (.pointer (some ⟨w.heap.size, 0, none⟩))) (w.alloc (.cells v.cells e)) := by
    simp [execOp, Instr.alloc, zeroValue, typeInfo, hi, hv, newVar, newRow]
  rw [hr]
  have hx : OERel m (w.alloc (.cells v.cells e)) (.box w.heap.size (v.cells.toList.map .val) e) := ⟨_, heap_new _ _, relL_vals m _ hone⟩
  refine ⟨_, hK w.heap.size, m, SimG.put (s := { s with h := _ :: s.h }) (hs.new_ (Same.alloc w _) (fun b hb => heap_old w _ b hb) hx (fun b hb => by injection hb with hb; omega)) hf (rel_val rfl)⟩
theorem step_box {e : Nat} {v : AV} {l : List AV} (hx : evalA s.t x = some v) (hl : v.cells = l) (hf : fits s d = true)
    (hK : ∀ b, K (({ s with h := .box b l e :: s.h } : St).put d (.val (.pointer (some ⟨b, 0, none⟩))))) : Step P ⟨d, .box e x, ty, pos, af, gd⟩ s K := by
  intro m0 w0 a w ⟨m, hs⟩ Q
  subst hl
  unfold Oper.wp
  have hr : (execOp a.eval ⟨d, .box e x, ty, pos, af, gd⟩).run P w = .ok (.value (.pointer (some ⟨w.heap.size, 0, none⟩))) (w.alloc (.cells (a.eval x).cells e)) := by
    simp [execOp, Instr.box, newVar, newRow]
  rw [hr]
  have hx : OERel m (w.alloc (.cells (a.eval x).cells e)) (.box w.heap.size v.cells e) := ⟨_, heap_new _ _, (hs.tmps.eval hx).cells⟩
  exact ⟨_, hK w.heap.size, m, SimG.put (s := { s with h := _ :: s.h }) (hs.new_ (Same.alloc w _) (fun b hb => heap_old w _ b hb) hx (fun b hb => by injection hb with hb; omega)) hf (rel_val rfl)⟩
/-! ### Stores -/
inductive SetL : List AV → Nat → AV → List AV → Prop
  | here {x y : AV} {r : List AV} : SetL (x :: r) 0 y (y :: r)
  | there {x y : AV} {r r' : List AV} {i : Nat} (h : SetL r i y r') : SetL (x :: r) (i + 1) y (x :: r')
theorem SetL.eq {l l' : List AV} {i : Nat} {y : AV} (h : SetL l i y l') : l' = l.set i y ∧ i < l.length := by
  induction h with
  | here => simp
  | there _ ih => simp [ih.1, ih.2]
/-- Each fits a cell. -/
inductive Ones (h : Heap) : List AV → Prop
  | nil : Ones h []
  | cons {x : AV} {r : List AV} (hx : x.one = true) (hr : Ones h r) : Ones h (x :: r)
  | own {v : Value} {k : Nat} {l : List AV} {e : Nat} {r : List AV} (hb : OE.own v k l e ∈ h) (hr : Ones h r) : Ones h (.val v :: r)
theorem own_one {m : Ghost} {w : World} {v : Value} {k : Nat} {l : List AV} {e : Nat} (h : OERel m w (.own v k l e)) : v.oneCell' = true := by
  rcases h.own_cases with ⟨A, rfl, _⟩ | ⟨g, cap, cur, xs, rfl, _⟩ <;> rfl
theorem Ones.spec {m : Ghost} {w : World} (hr : HRel m h w) {l : List AV} (ho : Ones h l) : ∀ {cs : List Value}, RelL m l cs → ∀ y ∈ cs, y.oneCell' = true := by
  induction ho with
  | nil => intro cs h; simp only [RelL] at h; subst h; simp
  | @cons x r hx _ ih =>
    intro cs h
    simp only [RelL] at h
    obtain ⟨c, q, rfl, h1, h2⟩ := h
    intro y hy
    simp at hy
    rcases hy with rfl | hy
    · exact h1.one hx
    · exact ih h2 y hy
  | @own v k l e r hb _ ih =>
    intro cs h
    simp only [RelL] at h
    obtain ⟨c, q, rfl, h1, h2⟩ := h
    intro y hy
    simp at hy
    rcases hy with rfl | hy
    · simp only [Rel] at h1; exact h1.1 ▸ h1.2
    · exact ih h2 y hy
theorem run_storeVar_at {g : Bool} {n b off : Nat} {cs : Array Value} {e : Nat} {v : Value} {w : World} (hv : valQ P t = some (g, n)) (hb : w.heap[b]? = some (.cells cs e (0, 0))) (hn : v.cells.size = n) (hl : off + n ≤ cs.size) (h1 : ∀ y ∈ v.cells.toList, y.oneCell' = true) :
    (storeVar t ⟨b, off, none⟩ v).run P w = .ok () (w.setRow b (cs.toList.take off ++ v.cells.toList ++ cs.toList.drop (off + n)).toArray) := by
  have := run_storeCells_at P b off e v.cells.toList 0 cs w hb (by simp; omega) h1
  unfold storeVar
  simp only [Sem.run_bind, run_sizeOf hv, Result.andThen_ok]
  rw [if_neg (by simp [hn])]
  simp only [Sem.run_bind, Sem.run_pure, Result.andThen_ok, this]
  simp [hn]
theorem setRow_at (w : World) (b : Nat) {cs : Array Value} {e : Nat} {fr : Nat × Nat} (c' : Array Value) (hb : w.heap[b]? = some (.cells cs e fr)) : (w.setRow b c').heap[b]? = some (.cells c' e fr) := setRow_heap w b cs c' e fr hb
theorem setRow_ne (w : World) (b b' : Nat) (c' : Array Value) (h : b' ≠ b) : (w.setRow b c').heap[b']? = w.heap[b']? := setRow_other w b b' c' h
/-- Cells from 'off' on, written anew. -/
theorem relL_splice {m : Ghost} {l ys : List AV} {cs vs : List Value} {off : Nat} (h : RelL m l cs) (k : RelL m ys vs) (hl : off + ys.length ≤ l.length) : RelL m (l.take off ++ ys ++ l.drop (off + ys.length)) (cs.take off ++ vs ++ cs.drop (off + vs.length)) := by
  rw [k.length]
  exact ((h.take off).append k).append (h.drop _)
/-- Into a variable: cells from 'off' on. -/
theorem step_store_any {t n b off bt : Nat} {g : Bool} {v : AV} {l ys : List AV} [hv : TVal P t g n] (hx : evalA s.t x = some (.val (.pointer (some ⟨b, off, none⟩)))) (hy : evalA s.t y = some v) (hc : v.cells = ys) (hn : ys.length = n)
    (hl : off + n ≤ l.length) (h1 : Ones s.h ys) (hu : Up s.h (.box b l bt) (.box b (l.take off ++ ys ++ l.drop (off + n)) bt) h') (hf : fits s d = true) (hK : K (({ s with h := h' } : St).put d (.tup []))) : Step P ⟨d, .store t x y, ty, pos, af, gd⟩ s K := by
  intro m0 w0 a w ⟨m, hs⟩ Q
  subst hc
  unfold Oper.wp
  obtain ⟨hnone, cs, q3, q4⟩ := hs.heap.2 _ hu.old
  have hyr := (hs.tmps.eval hy).cells
  have hlen : (a.eval y).cells.size = n := by rw [← hn, ← hyr.length]; simp
  have hcs : cs.size = l.length := by rw [← q4.length]; simp
  have hr := run_storeVar_at (P := P) (t := t) (off := off) hv.h q3 hlen (by omega) (h1.spec hs.heap hyr)
  have hr2 : (execOp a.eval ⟨d, .store t x y, ty, pos, af, gd⟩).run P w = .ok .skip (w.setRow b (cs.toList.take off ++ (a.eval y).cells.toList ++ cs.toList.drop (off + n)).toArray) := by
    simp [execOp, eval_val hs.tmps hx, Instr.storeAt, Instr.sureAddr, hr]
  rw [hr2]
  refine ⟨_, hK, m, SimG.put (s := { s with h := h' }) (hs.up hu (Same.setRow _ _ _) (fun b' o ho => setRow_ne w b b' _ ?_) (fun b' hb' hne => setRow_ne w b b' _ (fun e => hne (by rw [e]; rfl))) ⟨_, setRow_at w b _ q3, ?_⟩ (fun b' hb' => .inl hb')) hf rel_undef⟩
  · intro e; subst e; rw [hnone b' rfl] at ho; cases ho
  · have := relL_splice q4 hyr (off := off) (by omega)
    rw [hyr.length, hn] at this
    exact this
theorem step_store_whole {t n b bt : Nat} {g : Bool} {v : AV} {l ys : List AV} [hv : TVal P t g n] (hx : evalA s.t x = some (.val (.pointer (some ⟨b, 0, none⟩)))) (hy : evalA s.t y = some v) (hc : v.cells = ys) (hn : ys.length = n)
    (hl : l.length = n) (h1 : Ones s.h ys) (hu : Up s.h (.box b l bt) (.box b ys bt) h') (hf : fits s d = true) (hK : K (({ s with h := h' } : St).put d (.tup []))) : Step P ⟨d, .store t x y, ty, pos, af, gd⟩ s K :=
  step_store_any (off := 0) (l := l) (ys := ys) hx hy hc hn (by omega) h1 (by rw [List.take_zero, List.nil_append, Nat.zero_add, List.drop_of_length_le (by omega), List.append_nil]; exact hu) hf hK
theorem step_store_one {t b off bt : Nat} {g : Bool} {v : AV} {l l' : List AV} [hv : TVal P t g 1] (hx : evalA s.t x = some (.val (.pointer (some ⟨b, off, none⟩)))) (hy : evalA s.t y = some v) (hc : v.cells = [v])
    (h1 : Ones s.h [v]) (hs : SetL l off v l') (hu : Up s.h (.box b l bt) (.box b l' bt) h') (hf : fits s d = true) (hK : K (({ s with h := h' } : St).put d (.tup []))) : Step P ⟨d, .store t x y, ty, pos, af, gd⟩ s K := by
  obtain ⟨rfl, hlt⟩ := hs.eq
  refine step_store_any (off := off) (n := 1) (l := l) (bt := bt) (ys := [v]) hx hy hc rfl (by omega) h1 ?_ hf hK
  have : l.take off ++ [v] ++ l.drop (off + 1) = l.set off v := by rw [List.set_eq_take_append_cons_drop, if_pos hlt]; simp
  rw [this]; exact hu
/-! ### An owned slice's row, written anew -/
theorem own_set {m : Ghost} {w w' : World} {v : Value} {k e : Nat} {l l' : List AV} (h : OERel m w (.own v k l e)) (hl : l'.length = l.length) {g : Nat} {cap : Nat} (hv : v = .slice (some ⟨g, 0, none⟩) l.length cap) (hc : 0 < cap) {cur cur' : Array Value}
    (hg : w.heap[g]? = some (.cells cur e (0, 0))) (hg' : w'.heap[g]? = some (.cells cur' e (0, 0))) (hs : cur'.size = cur.size) (hr : RelE m k l' (cur'.toList.take (l.length * k))) (h1 : ∀ y ∈ cur'.toList.take (l.length * k), y.oneCell' = true) : OERel m w' (.own v k l' e) := by
  rcases h.own_cases with ⟨A, hA, _⟩ | ⟨g', cap', cur0, xs, hv', hc', q7, q8, q9, q10, _⟩
  · rw [hv] at hA; injection hA with _ _ hA; omega
  · rw [hv] at hv'
    injection hv' with hv' _ hcc
    injection hv' with hv'
    injection hv' with hv'
    subst hv'; subst hcc
    rw [hg] at q7
    injection q7 with q7; injection q7 with q7
    subst q7
    subst hv
    exact oerel_own hl.symm hc hg' (by omega) q9 (by rw [hs, q10]) (by rw [hl]; exact hr) (by rw [hl]; exact h1)
theorem take_splice {cur : List Value} {N o n : Nat} {vs : List Value} (hn : vs.length = n) (h : o + n ≤ N) (hN : N ≤ cur.length) : (cur.take o ++ vs ++ cur.drop (o + n)).take N = (cur.take N).take o ++ vs ++ (cur.take N).drop (o + n) := by
  have hX : (cur.take o ++ vs).length = o + n := by rw [List.length_append, List.length_take, hn]; omega
  rw [List.take_append, List.take_of_length_le (by omega), hX, List.take_take, Nat.min_eq_left (by omega), List.drop_take]
theorem mem_splice {xs vs : List Value} {o n : Nat} (h : ∀ y ∈ xs, y.oneCell' = true) (h2 : ∀ y ∈ vs, y.oneCell' = true) : ∀ y ∈ xs.take o ++ vs ++ xs.drop (o + n), y.oneCell' = true := by
  intro y hy
  rw [List.mem_append, List.mem_append] at hy
  rcases hy with (hy | hy) | hy
  · exact h y (List.mem_of_mem_take hy)
  · exact h2 y hy
  · exact h y (List.mem_of_mem_drop hy)
/-- A store into a row: element j is el' then; cells from 'off' on are written. -/
theorem step_store_row {t n k j off e : Nat} {g : Bool} {sv : Value} {v el' : AV} {l ys : List AV} [hv : TVal P t g n] (hx : evalA s.t x = some (.ep sv k j off)) (hy : evalA s.t y = some v) (hc : v.cells = ys) (hn : ys.length = n)
    (h1 : Ones s.h ys) (hj : j < l.length) (hoff : off + n ≤ k)
    (hel : ∀ (m : Ghost) (u : Value) (vs : List Value), (∀ el, l[j]? = some el → Rel m el u) → u.cells.size = k → RelL m ys vs → ∀ uu : Value, Rel m v uu → vs = uu.cells.toList →
      ∃ u', Rel m el' u' ∧ u'.cells.toList = u.cells.toList.take off ++ vs ++ u.cells.toList.drop (off + n))
    (hu : Up s.h (.own sv k l e) (.own sv k (l.set j el') e) h') (hf : fits s d = true) (hK : K (({ s with h := h' } : St).put d (.tup []))) : Step P ⟨d, .store t x y, ty, pos, af, gd⟩ s K := by
  intro m0 w0 a w ⟨m, hs⟩ Q
  subst hc
  unfold Oper.wp
  obtain ⟨hnone, q0⟩ := hs.heap.2 _ hu.old
  have hx := hs.tmps.eval hx
  simp only [Rel] at hx
  obtain ⟨b, N, cap, hx, hsv, hi⟩ := hx
  have hyr0 := hs.tmps.eval hy
  have hyr := hyr0.cells
  have hlen : (a.eval y).cells.size = n := by rw [← hn, ← hyr.length]; simp
  rcases q0.own_cases with ⟨A, _, rfl⟩ | ⟨g', cap', cur, xs, hs', hc0, q7, q8, q9, q10, q11, q12, q4, q5, q6, _⟩
  · simp at hj
  rw [hsv] at hs'
  injection hs' with hs' hN' hcap'
  injection hs' with hs'
  injection hs' with hs'
  subst hs'; subst hN'; subst hcap'
  have hlk : l.length * k ≤ cur.size := by rw [q10]; exact Nat.mul_le_mul_right _ q8
  have hjk : j * k + k ≤ l.length * k := by rw [← Nat.succ_mul]; exact Nat.mul_le_mul_right _ hj
  have hr := run_storeVar_at (P := P) (t := t) (off := j * k + off) hv.h q7 hlen (by omega) (h1.spec hs.heap hyr)
  have hr2 : (execOp a.eval ⟨d, .store t x y, ty, pos, af, gd⟩).run P w = .ok .skip (w.setRow b (cur.toList.take (j * k + off) ++ (a.eval y).cells.toList ++ cur.toList.drop (j * k + off + n)).toArray) := by
    simp [execOp, hx, Instr.storeAt, Instr.sureAddr, hr]
  rw [hr2]
  obtain ⟨el, hel0⟩ : ∃ el, l[j]? = some el := ⟨_, List.getElem?_eq_getElem hj⟩
  obtain ⟨u, u1, u2, u3⟩ := q4.at j el hel0
  have hvl : (a.eval y).cells.toList.length = n := by simpa using hlen
  have hul : u.cells.toList.length = k := by simpa using u2
  obtain ⟨u', v1, v2⟩ := hel m u _ (fun el1 h => by rw [hel0] at h; injection h with h; subst h; exact u1) u2 hyr (a.eval y) hyr0 rfl
  have hu's : u'.cells.size = k := by
    have := congrArg List.length v2
    simp at this
    rw [this]; omega
  have hcur : (cur.toList.take (j * k + off) ++ (a.eval y).cells.toList ++ cur.toList.drop (j * k + off + n)).take (l.length * k) = xs.take (j * k) ++ u'.cells.toList ++ xs.drop (j * k + k) := by
    rw [take_splice hvl (by omega) (by simpa using hlk), q11, v2, ← u3]
    have e1 : xs.take (j * k + off) = xs.take (j * k) ++ ((xs.drop (j * k)).take k).take off := by
      rw [List.take_take, Nat.min_eq_left (by omega), List.take_add]
    have e2 : xs.drop (j * k + off + n) = ((xs.drop (j * k)).take k).drop (off + n) ++ xs.drop (j * k + k) := by
      rw [List.drop_take, List.drop_drop]
      have e3 : xs.drop (j * k + k) = (xs.drop (j * k + (off + n))).drop (k - (off + n)) := by
        rw [List.drop_drop]; congr 1; omega
      rw [e3, List.take_append_drop, Nat.add_assoc]
    rw [e1, e2]
    simp only [List.append_assoc]
  have hget : ∀ y' ∈ xs.take (j * k) ++ u'.cells.toList ++ xs.drop (j * k + k), y'.oneCell' = true := by
    refine mem_splice q5 ?_
    rw [v2]
    refine mem_splice (fun y' hy' => ?_) (h1.spec hs.heap hyr)
    rw [← u3] at hy'
    exact q5 y' (List.mem_of_mem_drop (List.mem_of_mem_take hy'))
  refine ⟨_, hK, m, SimG.put (s := { s with h := h' }) (hs.up hu (Same.setRow _ _ _) (fun b' o ho => setRow_ne w b b' _ ?_) (fun b' hb' hne => setRow_ne w b b' _ (fun e => hne (by rw [e]; exact q6)))
    (own_set q0 (by simp) hsv hc0 q7 (setRow_at w b _ q7) (by simp; omega) ?_ ?_) (fun b' hb' => .inl hb')) hf rel_undef⟩
  · intro e; subst e; rw [hnone b' q6] at ho; cases ho
  · show RelE m k (l.set j el') ((cur.toList.take (j * k + off) ++ (a.eval y).cells.toList ++ cur.toList.drop (j * k + off + n)).take (l.length * k))
    rw [hcur]
    exact relE_set q4 j el' u' v1 hu's hj
  · show ∀ y' ∈ (cur.toList.take (j * k + off) ++ (a.eval y).cells.toList ++ cur.toList.drop (j * k + off + n)).take (l.length * k), _
    rw [hcur]
    exact hget
theorem step_store_elem {t k j e : Nat} {g : Bool} {sv : Value} {v : AV} {l ys : List AV} [hv : TVal P t g k] (hx : evalA s.t x = some (.ep sv k j 0)) (hy : evalA s.t y = some v) (hc : v.cells = ys) (hn : ys.length = k)
    (h1 : Ones s.h ys) (hj : j < l.length) (hu : Up s.h (.own sv k l e) (.own sv k (l.set j v) e) h') (hf : fits s d = true) (hK : K (({ s with h := h' } : St).put d (.tup []))) : Step P ⟨d, .store t x y, ty, pos, af, gd⟩ s K :=
  step_store_row (off := 0) hx hy hc hn h1 hj (by omega) (fun m u vs h2 h3 h4 uu h6 h7 => ⟨uu, h6, by
    rw [List.take_zero, List.nil_append, Nat.zero_add, List.drop_of_length_le (by simp [h3]), List.append_nil, h7]⟩) hu hf hK
theorem step_store_field {t k j off e : Nat} {g : Bool} {sv : Value} {v : AV} {l cs cs' : List AV} [hv : TVal P t g 1] (hx : evalA s.t x = some (.ep sv k j off)) (hy : evalA s.t y = some v) (hc : v.cells = [v])
    (h1 : Ones s.h [v]) (hel : l[j]? = some (.agg cs)) (hcs : cs.length = k) (hset : SetL cs off v cs') (hu : Up s.h (.own sv k l e) (.own sv k (l.set j (.agg cs')) e) h') (hf : fits s d = true) (hK : K (({ s with h := h' } : St).put d (.tup []))) : Step P ⟨d, .store t x y, ty, pos, af, gd⟩ s K := by
  obtain ⟨rfl, hlt⟩ := hset.eq
  have hj := (List.getElem?_eq_some_iff.1 hel).1
  refine step_store_row (off := off) (n := 1) hx hy hc rfl h1 hj (by omega) (fun m u vs h2 h3 h4 uu h6 h7 => ?_) hu hf hK
  have h2' := h2 _ hel
  clear h2
  simp only [Rel] at h2'
  obtain ⟨us, rfl, h2⟩ := h2'
  refine ⟨.agg (us.toList.take off ++ vs ++ us.toList.drop (off + 1)).toArray, ?_, rfl⟩
  simp only [Rel]
  refine ⟨_, rfl, ?_⟩
  have := relL_splice h2 h4 (off := off) (by rw [List.length_singleton]; omega)
  rw [h4.length] at this
  rw [List.set_eq_take_append_cons_drop, if_pos hlt]
  simpa using this
end
end Go.VM
