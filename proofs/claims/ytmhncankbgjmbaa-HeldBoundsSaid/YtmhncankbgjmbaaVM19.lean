/- Ranging over a map; a map that is no longer written. No condition. -/
import Derived.Test.YtmhncankbgjmbaaVM18
namespace Go.VM
open Go
set_option linter.unusedVariables false
set_option linter.unusedSimpArgs false
def mitV {α : Type} (b : Nat) (kd : IntKind) (f : α → AV) (t : List (Int × α)) (left : List Nat) (last : Option Nat) : OE := .mit b (t.map fun p => .int kd p.1) (t.map fun p => f p.2) left last
theorem mit_cases {α : Type} {kd : IntKind} {f : α → AV} {t : List (Int × α)} {m : Ghost} {b : Nat} {w : World} {left : List Nat} {last : Option Nat} (h : OERel m w (mitV b kd f t left last)) :
    (t = [] ∧ left = [] ∧ ∃ a c d, w.heap[b]? = some (.mapIter none a c d)) ∨ ∃ g es clk es' seen, w.heap[b]? = some (.mapIter (some g) clk seen clk) ∧ m g = some (.map es clk) ∧ Ent m kd f t es clk es' ∧ (∀ i, i ∈ left ↔ ∃ e, es'[i]? = some e ∧ e.born ∉ seen) ∧ left.Nodup ∧
      (∀ i, last = some i → ∃ (e : MapEntry) (seen0 : Array Nat), es'[i]? = some e ∧ seen = seen0.push e.born) := by
  unfold mitV at h
  simp only [OERel] at h
  obtain ⟨o, h0, h | h⟩ := h
  · obtain ⟨h1, h2, a, c, d, rfl⟩ := h
    exact .inl ⟨by simpa using h1, h2, a, c, d, h0⟩
  · obtain ⟨g, es, clk, es', seen, rfl, h1, h2, h3, h4, h5, h6, h7⟩ := h
    exact .inr ⟨g, es, clk, es', seen, h0, h1, ⟨h2, h3, h4⟩, h5, h6, h7⟩
section
variable {P : Program} {d : Option Nat} {ty : Nat} {pos : String} {af : Array Edge} {gd : Option (Nat × Bool)} {x y z : Operand} {mt kt et : Nat} {kd : IntKind} {α : Type} {f : α → AV} {t : List (Int × α)} {i : Int} {v : AV} {s : St} {K : St → Prop}
theorem step_range [hm : TMap P mt kt et kd] (hx : evalA s.t x = some (mapV kd f t)) (hf : fits s d = true)
    (hK : ∀ b, K (({ s with h := mitV b kd f t (List.range t.length) none :: s.h } : St).put d (.val (.pointer (some ⟨b, 0, none⟩))))) : Step P ⟨d, .range mt x, ty, pos, af, gd⟩ s K := by
  intro m0 w0 a w ⟨m, hs⟩ Q
  unfold Oper.wp
  rcases mro_cases (hs.tmps.eval hx) with ⟨e1, rfl⟩ | ⟨g, es, clk, es', e1, hg, k⟩
  · have hr : (execOp a.eval ⟨d, .range mt x, ty, pos, af, gd⟩).run P w = .ok (.value (.pointer (some ⟨w.heap.size, 0, none⟩))) (w.alloc (.mapIter none 0 #[] 0)) := by
      simp [execOp, Instr.range, e1, run_underlying hm.h, newObj]
      rfl
    rw [hr]
    have hx : OERel m (w.alloc (.mapIter none 0 #[] 0)) (mitV w.heap.size kd f ([] : List (Int × α)) (List.range 0) none) := by
      unfold mitV; simp only [OERel]
      exact ⟨_, heap_new _ _, .inl ⟨rfl, rfl, _, _, _, rfl⟩⟩
    exact ⟨_, hK w.heap.size, m, SimG.put (s := { s with h := _ :: s.h }) (hs.new_ (Same.alloc w _) (fun b hb => heap_old w _ b hb) hx (fun b hb => by injection hb with hb; omega)) hf (rel_val rfl)⟩
  · have hb := hs.holds g _ hg
    have hr : (execOp a.eval ⟨d, .range mt x, ty, pos, af, gd⟩).run P w = .ok (.value (.pointer (some ⟨w.heap.size, 0, none⟩))) (w.alloc (.mapIter (some g) clk #[] clk)) := by
      simp [execOp, Instr.range, e1, run_underlying hm.h, newObj, MapKept.run_getObj_map hb]
      rfl
    rw [hr]
    have hx : OERel m (w.alloc (.mapIter (some g) clk #[] clk)) (mitV w.heap.size kd f t (List.range t.length) none) := by
      unfold mitV; simp only [OERel]
      refine ⟨_, heap_new _ _, .inr ⟨g, es, clk, es', #[], rfl, hg, k.ok, k.ks, k.vs, fun i => ?_, List.nodup_range, fun i h => by cases h⟩⟩
      rw [List.mem_range, ← k.len]
      constructor
      · intro h; exact ⟨es'[i], List.getElem?_eq_getElem h, by simp⟩
      · rintro ⟨e, h, _⟩; exact (List.getElem?_eq_some_iff.1 h).1
    exact ⟨_, hK w.heap.size, m, SimG.put (s := { s with h := _ :: s.h }) (hs.new_ (Same.alloc w _) (fun b hb => heap_old w _ b hb) hx (fun b hb => by injection hb with hb; omega)) hf (rel_val rfl)⟩
theorem SimG.drew {m0 : GF} {w0 w : World} {m : Ghost} {a : Act} (k : SimG m0 w0 m s a w) : SimG m0 w0 m s a w.drew :=
  { k with same := k.same.drew, heap := ⟨k.heap.1, fun x hx => ⟨(k.heap.2 x hx).1, (k.heap.2 x hx).2.local (w' := w.drew) fun _ _ => rfl⟩⟩ }
theorem step_next {b : Nat} {left : List Nat} {last : Option Nat} {h' : Nat → Heap} (hx : evalA s.t x = some (.val (.pointer (some ⟨b, 0, none⟩)))) (hu : ∀ i, Up s.h (mitV b kd f t left last) (mitV b kd f t (left.erase i) (some i)) (h' i)) (hf : fits s d = true)
    (h0 : left = [] → K (s.put d (.tup [.val (.bool false)]))) (h1 : ∀ i p, i ∈ left → t[i]? = some p → K (({ s with h := h' i } : St).put d (.tup [.val (.bool true), .val (.int kd p.1), f p.2]))) : Step P ⟨d, .next x false, ty, pos, af, gd⟩ s K := by
  intro m0 w0 a w ⟨m, hs⟩ Q
  have e1 := eval_val hs.tmps hx
  have hov : Rel m (.tup [.val (.bool false)]) (.tuple #[.bool false]) := by simp only [Rel]; exact ⟨_, rfl, by simp only [RelL]; exact ⟨_, _, rfl, rel_val rfl, rfl⟩⟩
  unfold Oper.wp
  rcases mit_cases (hs.heap.2 _ (hu 0).old).2 with ⟨rfl, rfl, q1, q2, q3, hb⟩ | ⟨g, es, clk, es', seen, hb, hg, k, hl, hn, hla⟩
  · have hr : (execOp a.eval ⟨d, .next x false, ty, pos, af, gd⟩).run P w = .ok (.value (.tuple #[.bool false])) w := by
      simp [execOp, Instr.next, e1, getObj, Sem.run, hb, Result.andThen]
    rw [hr]
    exact ⟨_, h0 rfl, m, SimG.put hs hf hov⟩
  · have hgw := hs.holds g _ hg
    rcases run_next_at (P := P) w ty b g clk clk seen es clk hb hgw k.ok.2.1 (Nat.le_refl _) with ⟨hz, hrun⟩ | ⟨e, he, w1, hw1, hrun⟩
    · have hr : (execOp a.eval ⟨d, .next x false, ty, pos, af, gd⟩).run P w = .ok (.value (.tuple #[.bool false])) w := by
        simp [execOp, e1, hrun]
      rw [hr]
      refine ⟨_, h0 ?_, m, SimG.put hs hf hov⟩
      cases hll : left with
      | nil => rfl
      | cons i r =>
        exfalso
        obtain ⟨e, g1, g2⟩ := (hl i).1 (by rw [hll]; simp)
        have : e ∈ (leftOf es seen).toList := by
          unfold leftOf
          have he : e ∈ es.toList := k.ok.1.mem_iff.1 (List.mem_of_getElem? g1)
          simpa using ⟨by simpa using he, by simpa using g2⟩
        have h2 : (leftOf es seen).toList.length = 0 := by simpa using hz
        rw [List.eq_nil_of_length_eq_zero h2] at this
        cases this
    · have hee : e ∈ es.toList ∧ e.born ∉ seen := by
        unfold leftOf at he
        simp at he
        exact ⟨by simpa using he.1, by simpa using he.2⟩
      obtain ⟨i, hi⟩ := List.mem_iff_getElem?.1 (k.ok.1.mem_iff.2 hee.1)
      have hil : i ∈ left := (hl i).2 ⟨e, hi, hee.2⟩
      obtain ⟨p, g1, g2, g3⟩ := k.at hi
      have hr : (execOp a.eval ⟨d, .next x false, ty, pos, af, gd⟩).run P w = .ok (.value (.tuple #[.bool true, e.key, e.val])) (Go.ChangeMaps.setBlock w1 b (.mapIter (some g) clk (seen.push e.born) clk)) := by
        simp [execOp, e1, hrun]
      rw [hr]
      have hs1 : SimG m0 w0 m s a w1 := by rcases hw1 with rfl | rfl; exact hs; exact hs.drew
      have hb1 : w1.heap[b]? = some (.mapIter (some g) clk seen clk) := by rcases hw1 with rfl | rfl <;> exact hb
      have hx2 : OERel m { w1 with heap := w1.heap.setIfInBounds b (.mapIter (some g) clk (seen.push e.born) clk) } (mitV b kd f t (left.erase i) (some i)) := by
        unfold mitV; simp only [OERel]
        refine ⟨_, heap_set_at hb1, .inr ⟨g, es, clk, es', _, rfl, hg, k.ok, k.ks, k.vs, fun q => ?_, hn.erase i, fun q hq => ?_⟩⟩
        · rw [hn.mem_erase_iff, hl q]
          constructor
          · rintro ⟨hne, e2, q1, q2⟩
            refine ⟨e2, q1, fun hmem => ?_⟩
            rw [Array.mem_push] at hmem
            rcases hmem with hmem | hmem
            · exact q2 hmem
            · have hbn : (es'.map (·.born)).Nodup := ((k.ok.1.map _).nodup_iff).2 k.ok.2.2.1
              have hql := (List.getElem?_eq_some_iff.1 q1).1
              exact hne (List.getElem?_inj (l := es'.map (·.born)) (i := q) (j := i) (by simpa using hql) hbn |>.1 (by rw [List.getElem?_map, List.getElem?_map, q1, hi]; simp [hmem]))
          · rintro ⟨e2, q1, q2⟩
            rw [Array.mem_push] at q2
            refine ⟨fun e3 => ?_, e2, q1, fun hmem => q2 (.inl hmem)⟩
            subst e3
            rw [q1] at hi; injection hi with hi; subst hi
            exact q2 (.inr rfl)
        · injection hq with hq; subst hq
          exact ⟨e, seen, hi, rfl⟩
      refine ⟨_, h1 i p hil g1, m, SimG.put (s := { s with h := h' i }) (SimG.turn hs1 (hu i) hb1 rfl rfl hx2) hf ?_⟩
      simp only [Rel]
      exact ⟨_, rfl, by simp only [RelL]; exact ⟨_, _, rfl, rel_val rfl, _, _, rfl, by rw [g2]; exact rel_val rfl, _, _, rfl, g3, rfl⟩⟩
theorem pur_entry {tm : List (Nat × AV)} {h : Heap} {b i : Nat} {left : List Nat} {p : Int × α} (hx : evalA tm x = some (.val (.pointer (some ⟨b, 0, none⟩)))) (hb : mitV b kd f t left (some i) ∈ h) (hp : t[i]? = some p) : Pur P ⟨d, .entry x, ty, pos, af, gd⟩ tm h (.tup [.val (.int kd p.1), f p.2]) := fun m a w0 ht hh hr => by
  have e1 := eval_val ht hx
  rcases mit_cases (hr.2 _ hb).2 with ⟨rfl, _⟩ | ⟨g, es, clk, es', seen, hbb, hg, k, hl, hn, hla⟩
  · simp at hp
  · obtain ⟨e, seen0, q1, rfl⟩ := hla i rfl
    obtain ⟨p', g1, g2, g3⟩ := k.at q1
    rw [hp] at g1; injection g1 with g1; subst g1
    refine ⟨.tuple #[e.key, e.val], ?_, fun w hw ha => ?_⟩
    · simp only [Rel]
      exact ⟨_, rfl, by simp only [RelL]; exact ⟨_, _, rfl, by rw [g2]; exact rel_val rfl, _, _, rfl, g3, rfl⟩⟩
    · have h1 := run_entry_at (P := P) w b g clk seen0 es clk e ((ha _ hb b rfl).trans hbb) (hw g _ hg) (k.ok.1.mem_iff.1 (List.mem_of_getElem? q1)) k.ok.2.2.1
      simp [execOp, e1, h1]
end
def remL {β : Type} (t : List β) (left : List Nat) : List β := left.filterMap (t[·]?)
theorem remL_take {β : Type} (t : List β) : ∀ k, remL t (List.range k) = t.take k
  | 0 => by simp [remL]
  | k + 1 => by
    have ih := remL_take t k
    unfold remL at ih ⊢
    rw [List.range_succ, List.filterMap_append, ih, List.take_add_one]
    cases h : t[k]? <;> simp [h]
theorem remL_all {β : Type} (t : List β) : remL t (List.range t.length) = t := by rw [remL_take, List.take_length]
theorem remL_cons {β : Type} {t : List β} {left : List Nat} {i : Nat} {p : β} (hi : i ∈ left) (hp : t[i]? = some p) : (remL t left).Perm (p :: remL t (left.erase i)) := by
  unfold remL
  refine ((List.perm_cons_erase hi).filterMap _).trans ?_
  rw [List.filterMap_cons_some hp]
theorem remL_nil {β : Type} (t : List β) : remL t [] = [] := rfl
/-! ### What is no longer written -/
inductive Fz (v : Value) (y : AV) : AV → AV → Prop
  | keep (x : AV) : Fz v y x x
  | hit : Fz v y (.val v) y
  | aggn : Fz v y (.agg []) (.agg [])
  | aggc {x z : AV} {r q : List AV} (h : Fz v y x z) (hr : Fz v y (.agg r) (.agg q)) : Fz v y (.agg (x :: r)) (.agg (z :: q))
  | tupn : Fz v y (.tup []) (.tup [])
  | tupc {x z : AV} {r q : List AV} (h : Fz v y x z) (hr : Fz v y (.tup r) (.tup q)) : Fz v y (.tup (x :: r)) (.tup (z :: q))
theorem Fz.rel {v : Value} {y x z : AV} (h : Fz v y x z) {m m' : Ghost} (hm : Gle m m') (hv : Rel m' y v) : ∀ u, Rel m x u → Rel m' z u := by
  induction h with
  | keep x => exact fun u h => h.mono hm
  | hit => intro u h; simp only [Rel] at h; obtain ⟨rfl, _⟩ := h; exact hv
  | aggn => exact fun u h => h.mono hm
  | aggc _ _ ih1 ih2 =>
    intro u k
    simp only [Rel, RelL] at k ⊢
    obtain ⟨cs, rfl, c, r, e, k1, k2⟩ := k
    have := ih2 (.agg r.toArray) (by simp only [Rel]; exact ⟨_, rfl, k2⟩)
    simp only [Rel] at this
    obtain ⟨cs', e', k3⟩ := this
    injection e' with e'
    exact ⟨cs, rfl, c, r, e, ih1 c k1, by rw [← e'] at k3; exact k3⟩
  | tupn => exact fun u h => h.mono hm
  | tupc _ _ ih1 ih2 =>
    intro u k
    simp only [Rel, RelL] at k ⊢
    obtain ⟨cs, rfl, c, r, e, k1, k2⟩ := k
    have := ih2 (.tuple r.toArray) (by simp only [Rel]; exact ⟨_, rfl, k2⟩)
    simp only [Rel] at this
    obtain ⟨cs', e', k3⟩ := this
    injection e' with e'
    exact ⟨cs, rfl, c, r, e, ih1 c k1, by rw [← e'] at k3; exact k3⟩
inductive FzT (v : Value) (y : AV) : List (Nat × AV) → List (Nat × AV) → Prop
  | rest (t : List (Nat × AV)) : FzT v y t t
  | cons {i : Nat} {x z : AV} {t t' : List (Nat × AV)} (h : Fz v y x z) (r : FzT v y t t') : FzT v y ((i, x) :: t) ((i, z) :: t')
inductive FzH (v : Value) (y : AV) : Heap → Heap → Prop
  | rest (h : Heap) : FzH v y h h
  | keep (x : OE) {h h' : Heap} (r : FzH v y h h') : FzH v y (x :: h) (x :: h')
  | box {b ty : Nat} {c c' : List AV} {h h' : Heap} (q : Fz v y (.agg c) (.agg c')) (r : FzH v y h h') : FzH v y (.box b c ty :: h) (.box b c' ty :: h')
theorem FzT.get {v : Value} {y : AV} {t t' : List (Nat × AV)} (h : FzT v y t t') : ∀ i z, VM.get t' i = some z → ∃ x, VM.get t i = some x ∧ Fz v y x z := by
  induction h with
  | rest t => exact fun i y h => ⟨y, h, .keep _⟩
  | @cons j x z t t' h r ih =>
    intro i u hu
    rw [get_eq] at hu ⊢
    by_cases hj : j = i
    · rw [if_pos hj] at hu ⊢
      injection hu with hu; subst hu
      exact ⟨x, rfl, h⟩
    · rw [if_neg hj] at hu ⊢
      exact ih i u hu
theorem FzH.mem {v : Value} {y : AV} {h h' : Heap} (q : FzH v y h h') : ∀ x ∈ h', ∃ z ∈ h, z.blk = x.blk ∧ (z = x ∨ ∃ b c c' ty, z = .box b c ty ∧ x = .box b c' ty ∧ Fz v y (.agg c) (.agg c')) := by
  induction q with
  | rest h => exact fun x hx => ⟨x, hx, rfl, .inl rfl⟩
  | keep x r ih =>
    intro u hu
    rcases List.mem_cons.1 hu with rfl | hu
    · exact ⟨_, List.mem_cons_self .., rfl, .inl rfl⟩
    · obtain ⟨z, h1, h2⟩ := ih u hu; exact ⟨z, List.mem_cons_of_mem _ h1, h2⟩
  | box q r ih =>
    intro u hu
    rcases List.mem_cons.1 hu with rfl | hu
    · exact ⟨_, List.mem_cons_self .., rfl, .inr ⟨_, _, _, _, rfl, rfl, q⟩⟩
    · obtain ⟨z, h1, h2⟩ := ih u hu; exact ⟨z, List.mem_cons_of_mem _ h1, h2⟩
theorem FzH.blks {v : Value} {y : AV} {h h' : Heap} (q : FzH v y h h') : h'.filterMap OE.blk = h.filterMap OE.blk := by
  induction q with
  | rest h => rfl
  | keep x r ih => simp only [List.filterMap_cons, ih]
  | box q r ih => simp only [List.filterMap_cons, ih, OE.blk]
theorem Sim.fz {m0 : GF} {w0 : World} {n : Nat} {t t' : List (Nat × AV)} {h h1 h2 : Heap} {a : Act} {w : World} {x : OE} {v : Value} {y : AV} (hs : Sim m0 w0 ⟨n, t, h⟩ a w) (tk : Tk h x h1)
    (hy : ∀ m m'' : Ghost, OERel m w x → Gle m m'' → (∀ b, x.blk = some b → m'' b = w.heap[b]?) → Rel m'' y v) (ht : FzT v y t t') (hh : FzH v y h1 h2) : Sim m0 w0 ⟨n, t', h2⟩ a w := by
  obtain ⟨m, q⟩ := hs
  have hown := q.heap.2 _ tk.old
  let m'' : Ghost := fun b => if x.blk = some b then w.heap[b]? else m b
  have hle : Gle m m'' := fun b o hb => by
    show (if x.blk = some b then w.heap[b]? else m b) = some o
    rw [if_neg (fun hv => by rw [hown.1 b hv] at hb; cases hb)]; exact hb
  have hat : ∀ b, x.blk = some b → m'' b = w.heap[b]? := fun b hb => if_pos hb
  have hro := hy m m'' hown.2 hle hat
  refine ⟨m'', ⟨q.le.trans hle, fun b o hb => ?_, q.frame, fun x hx b hb => ?_, fun b o hb => ?_, q.same, q.defers, q.size, fun i z hz => ?_, ?_, fun x2 hx => ?_⟩⟩
  · have hb : (if x.blk = some b then w.heap[b]? else m b) = some o := hb
    split at hb
    · rename_i hv; exact .inr (q.own _ tk.old b hv)
    · exact q.grow b o hb
  · obtain ⟨y, g1, g2, _⟩ := hh.mem x hx
    exact q.own y (tk.sub.subset g1) b (g2.trans hb)
  · have hb : (if x.blk = some b then w.heap[b]? else m b) = some o := hb
    split at hb
    · exact hb
    · exact q.holds b o hb
  · obtain ⟨x, g1, g2⟩ := ht.get i z hz
    obtain ⟨u, g3, g4⟩ := q.tmps i x g1
    exact ⟨u, g3, g2.rel hle hro u g4⟩
  · show (h2.filterMap OE.blk).Nodup
    rw [hh.blks]; exact (tk.sub.filterMap _).nodup q.heap.1
  · obtain ⟨y2, g1, g2, g3⟩ := hh.mem x2 hx
    have hy2 := q.heap.2 y2 (tk.sub.subset g1)
    refine ⟨fun b hb => ?_, ?_⟩
    · show (if x.blk = some b then w.heap[b]? else m b) = none
      rw [if_neg (show ¬ x.blk = some b from fun hv => tk.nodup q.heap.1 b hv y2 g1 (g2.trans hb))]
      exact hy2.1 b (g2.trans hb)
    · rcases g3 with rfl | ⟨b, c, c', ty, rfl, rfl, g3⟩
      · exact hy2.2.mono hle
      · have := hy2.2
        simp only [OERel] at this ⊢
        obtain ⟨cs, q1, q2⟩ := this
        have r := g3.rel hle hro (.agg cs) (by simp only [Rel]; exact ⟨_, rfl, q2⟩)
        simp only [Rel] at r
        obtain ⟨cs', e, r⟩ := r
        injection e with e
        exact ⟨cs, q1, by rw [← e] at r; exact r⟩
theorem mp_ro {α : Type} {kd : IntKind} {f : α → AV} {t : List (Int × α)} {b : Nat} {w : World} (m m'' : Ghost) (h : OERel m w (mpV b kd f t)) (hm : Gle m m'') (hb : ∀ b', (mpV b kd f t).blk = some b' → m'' b' = w.heap[b']?) : Rel m'' (mapV kd f t) (.map (some b)) := by
  obtain ⟨es, clk, es', h0, k⟩ := mp_cases h
  have k := k.mono hm
  unfold mapV
  simp only [Rel]
  exact ⟨some b, rfl, .inr ⟨b, es, clk, es', rfl, (hb b rfl).trans h0, k.ok, k.ks, k.vs⟩⟩
section
variable {P : Program} {n : Nat} {T T' : List (Nat × AV)} {h h1 h2 : Heap} {α : Type} {kd : IntKind} {f : α → AV} {t : List (Int × α)} {b : Nat}
theorem W.frzm {c : Code} {Q : Exit → St → Prop} (tk : Tk h (mpV b kd f t) h1) (ht : FzT (.map (some b)) (mapV kd f t) T T') (hh : FzH (.map (some b)) (mapV kd f t) h1 h2) (q : W P c Q ⟨n, T', h2⟩) : W P c Q ⟨n, T, h⟩ := fun m0 w0 a w hs => q m0 w0 a w (hs.fz tk mp_ro ht hh)
theorem RL.frzm {ops : Array Oper} {rest : List Oper} {K : St → Prop} (tk : Tk h (mpV b kd f t) h1) (ht : FzT (.map (some b)) (mapV kd f t) T T') (hh : FzH (.map (some b)) (mapV kd f t) h1 h2) (q : RL P ops rest ⟨n, T', h2⟩ K) : RL P ops rest ⟨n, T, h⟩ K := fun i hi m0 w0 a w hs => q i hi m0 w0 a w (hs.fz tk mp_ro ht hh)
theorem Step.frzm {o : Oper} {K : St → Prop} (tk : Tk h (mpV b kd f t) h1) (ht : FzT (.map (some b)) (mapV kd f t) T T') (hh : FzH (.map (some b)) (mapV kd f t) h1 h2) (q : Step P o ⟨n, T', h2⟩ K) : Step P o ⟨n, T, h⟩ K := fun m0 w0 a w hs => q m0 w0 a w (hs.fz tk mp_ro ht hh)
end
end Go.VM
