import Derived.Test.YtmhncankbgjmbaaVM2
import Derived.Maps.AppendAt
import Derived.Laws.OwnMore
import Derived.Laws.MakeOwn
namespace Go.VM
open Go
set_option linter.unusedVariables false
set_option linter.unusedSimpArgs false

section
variable {P : Program} {t : Nat}
variable {d : Option Nat} {ty : Nat} {pos : String} {af : Array Edge} {gd : Option (Nat × Bool)} {tm : List (Nat × AV)} {h : Heap} {x y : Operand}
theorem elemQ_spec {e k bs : Nat} {g : Bool} (h : elemQ P t = some (e, k, bs, g)) : P.underlying t = some (.slice e) ∧ valQ P e = some (g, k) ∧ 0 < k ∧ ∃ i z, P.info? e = some i ∧ i.size = k ∧ i.bytes = bs ∧ i.zero = some z ∧ z.cells.size = k := by
  unfold elemQ at h
  split at h
  · rename_i e' hu
    split at h
    · rename_i i g' n' hi hv
      split at h
      · rename_i z hz
        split at h
        · rename_i hc
          injection h with h; injection h with h1 h; injection h with h2 h; injection h with h3 h4
          subst h1; subst h2; subst h3; subst h4
          obtain ⟨_, ⟨i', hi', hs⟩, _⟩ := valQ_spec hv
          rw [hi] at hi'; injection hi' with hi'; subst hi'
          subst hs
          exact ⟨hu, hv, hc.2, i, z, hi, rfl, rfl, hz, hc.1⟩
        · cases h
      · cases h
    · cases h
  · cases h
/-! ### Places -/
theorem run_indexAt_slice {e k bs : Nat} {g : Bool} (he : elemQ P t = some (e, k, bs, g)) {b off n c : Nat} {kd : IntKind} {j : Nat} (hj : j < n) (w : World) :
    (Instr.indexAt t (.slice (some ⟨b, off, none⟩) n c) (.int kd (j : Int))).run P w = .ok (.pointer (some ⟨b, off + j * k, none⟩)) w := by
  obtain ⟨h1, h2, h3, _⟩ := elemQ_spec he
  simp [Instr.indexAt, asIntOf, run_underlying h1, hj, run_sizeOf h2, add_mk']
theorem pur_index_ro {xt e k bs j : Nat} {g : Bool} {l : List AV} {kd : IntKind} {i : Int} [he : TElem P xt e k bs g] (hx : evalA tm x = some (.ro k l)) (hy : evalA tm y = some (.val (.int kd i))) (hi : i = (j : Int)) (hj : j < l.length) :
    PurV P ⟨d, .indexAddr xt x y, ty, pos, af, gd⟩ tm h (.rp k l j 0) := fun m a w0 ht g1 g2 => by
  have hx := ht.eval hx
  simp only [Rel] at hx
  obtain ⟨A, c, hx, h1, h2, h3, h4⟩ := hx
  have hw := h4 (by intro hl; subst hl; simp at hj)
  have hw' := hw
  obtain ⟨b, off, cs, e', fr, rfl, _⟩ := hw
  refine ⟨.pointer (some ⟨b, off + (j * k + 0), none⟩), by simp only [Rel]; exact ⟨b, off, rfl, hj, hw'⟩, fun w => ?_⟩
  subst hi
  simp [execOp, hx, eval_val ht hy, run_indexAt_slice he.h hj]
theorem pur_index_own {xt e k bs j : Nat} {g : Bool} {l : List AV} {v : Value} {e' : Nat} {kd : IntKind} {i : Int} [he : TElem P xt e k bs g] (hx : evalA tm x = some (.val v)) (hb : OE.own v k l e' ∈ h) (hy : evalA tm y = some (.val (.int kd i))) (hi : i = (j : Int)) (hj : j < l.length) :
    PurV P ⟨d, .indexAddr xt x y, ty, pos, af, gd⟩ tm h (.ep v k j 0) := fun m a w0 ht g1 g2 => by
  rcases (g2.2 _ hb).2.own_cases with ⟨A, _, rfl⟩ | ⟨b, cap, cur, xs, rfl, _⟩
  · simp at hj
  refine ⟨.pointer (some ⟨b, j * k + 0, none⟩), by simp only [Rel]; exact ⟨b, _, cap, rfl, rfl, hj⟩, fun w => ?_⟩
  subst hi
  simp [execOp, eval_val ht hx, eval_val ht hy, run_indexAt_slice he.h hj]
theorem pur_index_vw {xt e k bs j lo n : Nat} {g : Bool} {v : Value} {kd : IntKind} {i : Int} [he : TElem P xt e k bs g] (hx : evalA tm x = some (.vw v k lo n)) (hy : evalA tm y = some (.val (.int kd i))) (hi : i = (j : Int)) (hj : j < n) :
    PurV P ⟨d, .indexAddr xt x y, ty, pos, af, gd⟩ tm h (.ep v k (lo + j) 0) := fun m a w0 ht g1 g2 => by
  have hx := ht.eval hx
  simp only [Rel] at hx
  obtain ⟨A, c, hx, h1, h2, _, h3⟩ := hx
  obtain ⟨b, N, cap, rfl, rfl, h4⟩ := h3 (by omega)
  refine ⟨.pointer (some ⟨b, (lo + j) * k + 0, none⟩), by simp only [Rel]; exact ⟨b, _, cap, rfl, rfl, by omega⟩, fun w => ?_⟩
  subst hi
  simp [execOp, hx, eval_val ht hy, run_indexAt_slice he.h hj, Nat.add_mul]
theorem pur_index_arr {xt n e k b o j : Nat} {g : Bool} {kd : IntKind} {i : Int} [ha : TArr P xt n e k g] (hx : evalA tm x = some (.val (.pointer (some ⟨b, o, none⟩)))) (hy : evalA tm y = some (.val (.int kd i))) (hi : i = (j : Int)) (hj : j < n) :
    PurV P ⟨d, .indexAddr xt x y, ty, pos, af, gd⟩ tm h (.val (.pointer (some ⟨b, o + j * k, none⟩))) := pur_val fun m a ht w => by
  subst hi
  have : (j : Int) < (n : Int) := by omega
  simp [execOp, eval_val ht hx, eval_val ht hy, Instr.indexAt, asIntOf, run_underlying ha.h, Instr.sureAddr, hj, run_sizeOf ha.v, add_mk']
/-! ### Pieces of slices -/
/-- The bounds as they stand: a number, or none ('the beginning', 'the end'). -/
def bndA (tm : List (Nat × AV)) (dflt : Nat) : Option Operand → Nat → Prop
  | none, n => n = dflt
  | some x, n => ∃ kd i, evalA tm x = some (.val (.int kd i)) ∧ i = (n : Int)
theorem run_slice_any {e k bs : Nat} {g : Bool} (he : elemQ P t = some (e, k, bs, g)) {m : Ghost} {a : Act} (ht : TRel m tm a.tmps) {A : Option Addr} {n c lo hi : Nat} {x1 x2 : Option Operand}
    (h1 : bndA tm 0 x1 lo) (h2 : bndA tm n x2 hi) (hl : lo ≤ hi) (hh : hi ≤ n) (hc : n ≤ c) (w : World) :
    (Instr.sliceAt t (.slice A n c) (x1.map a.eval) (x2.map a.eval) none).run P w = .ok (.slice (if c = lo then A else A.map (·.add (lo * k))) (hi - lo) (c - lo)) w := by
  obtain ⟨q1, q2, q3, _⟩ := elemQ_spec he
  have hic : (hi : Int) ≤ (c : Int) := by omega
  have hlh : (lo : Int) ≤ (hi : Int) := by omega
  cases x1 with
  | none =>
    simp only [bndA] at h1; subst h1
    cases x2 with
    | none =>
      simp only [bndA] at h2; subst h2
      simp [Instr.sliceAt, Instr.slice, Instr.sliceBounds, run_underlying q1, run_sizeOf q2]
    | some y =>
      obtain ⟨kd, i, h2, rfl⟩ := h2
      simp [Instr.sliceAt, Instr.slice, Instr.sliceBounds, Instr.sliceBound, run_underlying q1, run_sizeOf q2, eval_val ht h2, asIntOf, show hi ≤ c by omega]
  | some x =>
    obtain ⟨kd, i, h1, rfl⟩ := h1
    cases x2 with
    | none =>
      simp only [bndA] at h2; subst h2
      simp [Instr.sliceAt, Instr.slice, Instr.sliceBounds, Instr.sliceBound, run_underlying q1, run_sizeOf q2, eval_val ht h1, asIntOf, hl]
    | some y =>
      obtain ⟨kd2, i2, h2, rfl⟩ := h2
      simp [Instr.sliceAt, Instr.slice, Instr.sliceBounds, Instr.sliceBound, run_underlying q1, run_sizeOf q2, eval_val ht h1, eval_val ht h2, asIntOf, hl, show hi ≤ c by omega]
theorem pur_slice_ro {xt e k bs lo hi : Nat} {g : Bool} {l : List AV} {x1 x2 : Option Operand} [he : TElem P xt e k bs g] (hx : evalA tm x = some (.ro k l)) (h1 : bndA tm 0 x1 lo) (h2 : bndA tm l.length x2 hi) (hl : lo ≤ hi) (hh : hi ≤ l.length) :
    PurV P ⟨d, .slice xt x x1 x2 none, ty, pos, af, gd⟩ tm h (.ro k ((l.drop lo).take (hi - lo))) := fun m a w0 ht g1 g2 => by
  have hx := ht.eval hx
  simp only [Rel] at hx
  obtain ⟨A, c, hx, q1, q2, q3, q4⟩ := hx
  have hlen : ((l.drop lo).take (hi - lo)).length = hi - lo := by rw [List.length_take, List.length_drop]; omega
  refine ⟨.slice (if c = lo then A else A.map (·.add (lo * k))) (hi - lo) (c - lo), ?_, fun w => ?_⟩
  · simp only [Rel]
    rw [hlen]
    refine ⟨_, _, rfl, by omega, by omega, ?_, fun hne => ?_⟩
    · split
      · intro _; omega
      · intro h
        have : A = none := by cases A <;> simp_all
        have := q3 this
        omega
    · have hpos : 0 < hi - lo := by
        rw [← hlen]
        exact List.length_pos_iff.2 hne
      obtain ⟨b, off, cs, e', fr, rfl, w2, w3, w4, w5⟩ := q4 (by intro h; subst h; simp at hh; omega)
      rw [if_neg (by omega)]
      have hm : (hi - lo) * k ≤ l.length * k - lo * k := by rw [← Nat.sub_mul]; exact Nat.mul_le_mul_right _ (by omega)
      have hm2 : lo * k ≤ l.length * k := Nat.mul_le_mul_right _ (by omega)
      have e1 : (cs.toList.drop (off + lo * k)).take ((hi - lo) * k) = (((cs.toList.drop off).take (l.length * k)).drop (lo * k)).take ((hi - lo) * k) := by
        rw [List.drop_take, List.drop_drop, List.take_take, Nat.min_eq_left (by omega)]
      refine ⟨b, off + lo * k, cs, e', fr, by simp [add_mk'], w2, by omega, ?_, ?_⟩
      · rw [e1]; exact (w4.drop lo).take _
      · rw [e1]
        intro y hy
        exact w5 y (List.mem_of_mem_drop (List.mem_of_mem_take hy))
  · simp only [execOp, hx, Option.map_none, Sem.run_bind, run_slice_any he.h ht h1 h2 hl hh q1, Result.andThen_ok, Sem.run_pure]
theorem pur_slice_own {xt e k bs lo hi e' : Nat} {g : Bool} {l : List AV} {v : Value} {x1 x2 : Option Operand} [he : TElem P xt e k bs g] (hx : evalA tm x = some (.val v)) (hb : OE.own v k l e' ∈ h) (h1 : bndA tm 0 x1 lo) (h2 : bndA tm l.length x2 hi) (hl : lo ≤ hi) (hh : hi ≤ l.length) :
    PurV P ⟨d, .slice xt x x1 x2 none, ty, pos, af, gd⟩ tm h (.vw v k lo (hi - lo)) := fun m a w0 ht g1 g2 => by
  have hx := eval_val ht hx
  obtain ⟨A, c, hv, hc, hcm, hN, hA⟩ : ∃ A c, v = .slice A l.length c ∧ l.length ≤ c ∧ c ≤ maxLen ∧ (A = none → c = 0) ∧ (0 < l.length → ∃ b, A = some ⟨b, 0, none⟩) := by
    rcases (g2.2 _ hb).2.own_cases with ⟨A, rfl, rfl⟩ | ⟨b, cap, cur, xs, rfl, _, q7, q8, q9, q10, q11, _⟩
    · exact ⟨A, 0, rfl, Nat.le_refl _, Nat.zero_le _, fun _ => rfl, fun h => absurd h (Nat.lt_irrefl _)⟩
    · exact ⟨_, cap, rfl, q8, q9, fun h => (by cases h), fun _ => ⟨b, rfl⟩⟩
  refine ⟨.slice (if c = lo then A else A.map (·.add (lo * k))) (hi - lo) (c - lo), ?_, fun w => ?_⟩
  · simp only [Rel]
    refine ⟨_, _, rfl, by omega, by omega, by
      split
      · intro _; omega
      · intro h
        have : A = none := by cases A <;> simp_all
        have := hN this
        omega, fun hpos => ?_⟩
    obtain ⟨b, rfl⟩ := hA (by omega)
    exact ⟨b, l.length, c, hv, by rw [if_neg (by omega)]; simp [add_mk'], by omega⟩
  · subst hv
    simp only [execOp, hx, Option.map_none, Sem.run_bind, run_slice_any he.h ht h1 h2 hl hh hc, Result.andThen_ok, Sem.run_pure]
theorem pur_slice_vw {xt e k bs lo hi a0 n : Nat} {g : Bool} {v : Value} {x1 x2 : Option Operand} [he : TElem P xt e k bs g] (hx : evalA tm x = some (.vw v k a0 n)) (h1 : bndA tm 0 x1 lo) (h2 : bndA tm n x2 hi) (hl : lo ≤ hi) (hh : hi ≤ n) :
    PurV P ⟨d, .slice xt x x1 x2 none, ty, pos, af, gd⟩ tm h (.vw v k (a0 + lo) (hi - lo)) := fun m a w0 ht g1 g2 => by
  have hx := ht.eval hx
  simp only [Rel] at hx
  obtain ⟨A, c, hx, hc, hcm, hN, hA⟩ := hx
  refine ⟨.slice (if c = lo then A else A.map (·.add (lo * k))) (hi - lo) (c - lo), ?_, fun w => ?_⟩
  · simp only [Rel]
    refine ⟨_, _, rfl, by omega, by omega, by
      split
      · intro _; omega
      · intro h
        have : A = none := by cases A <;> simp_all
        have := hN this
        omega, fun hpos => ?_⟩
    obtain ⟨b, N, cap, hv, rfl, hN⟩ := hA (by omega)
    exact ⟨b, N, cap, hv, by rw [if_neg (by omega)]; simp [add_mk', Nat.add_mul], by omega⟩
  · simp only [execOp, hx, Option.map_none, Sem.run_bind, run_slice_any he.h ht h1 h2 hl hh hc, Result.andThen_ok, Sem.run_pure]
/-! ### What may be read as a list -/
inductive SrcA (h : Heap) (k : Nat) : AV → List AV → Prop
  | ro (l : List AV) : SrcA h k (.ro k l) l
  | own {v : Value} {l : List AV} {e : Nat} (hb : OE.own v k l e ∈ h) : SrcA h k (.val v) l
  | vw {v : Value} {l : List AV} {e lo n : Nat} (hb : OE.own v k l e ∈ h) (hn : lo + n ≤ l.length) : SrcA h k (.vw v k lo n) ((l.drop lo).take n)
  | emp : SrcA h k .emp []
  | nil : SrcA h k (.val (.slice none 0 0)) []
theorem SrcA.spec {m : Ghost} {k : Nat} {v : AV} {l : List AV} {u : Value} {w : World} (hs : SrcA h k v l) (hm : Holds m w) (hr : HRel m h w) (hu : Rel m v u) :
    ∃ A c ys, u = .slice A l.length c ∧ l.length ≤ c ∧ c ≤ maxLen ∧ RelE m k l ys ∧ (∀ y ∈ ys, y.oneCell' = true) ∧ (A = none → c = 0) ∧
      (0 < l.length → ∃ b off cs e fr, A = some ⟨b, off, none⟩ ∧ w.heap[b]? = some (.cells cs e fr) ∧ off + l.length * k ≤ cs.size ∧ (cs.toList.drop off).take (l.length * k) = ys ∧ (m b = some (.cells cs e fr) ∨ ∃ x ∈ h, x.blk = some b)) := by
  cases hs with
  | ro l =>
    simp only [Rel] at hu
    obtain ⟨A, c, rfl, h1, h2, h3, h4⟩ := hu
    by_cases hl : l = []
    · subst hl
      exact ⟨A, c, [], rfl, h1, h2, by simp [RelE], by simp, h3, fun h => absurd h (Nat.lt_irrefl _)⟩
    · obtain ⟨b, off, cs, e', fr, rfl, w2, w3, w4, w5⟩ := h4 hl
      exact ⟨_, c, _, rfl, h1, h2, w4, w5, h3, fun _ => ⟨b, off, cs, e', fr, rfl, hm _ _ w2, w3, rfl, .inl w2⟩⟩
  | own hb =>
    rename_i v e
    simp only [Rel] at hu
    obtain ⟨rfl, _⟩ := hu
    rcases (hr.2 _ hb).2.own_cases with ⟨A, rfl, rfl⟩ | ⟨b, cap, cur, xs, rfl, _, q7, q8, q9, q10, q11, q12, q4, q5, q6, _⟩
    · exact ⟨A, 0, [], rfl, Nat.le_refl _, Nat.zero_le _, by simp [RelE], by simp, fun _ => rfl, fun h => absurd h (Nat.lt_irrefl _)⟩
    · refine ⟨_, cap, xs, rfl, q8, q9, q4, q5, fun h => (by cases h), fun _ => ⟨b, 0, cur, _, _, rfl, q7, ?_, by simpa using q11, .inr ⟨_, hb, q6⟩⟩⟩
      rw [q10, Nat.zero_add]; exact Nat.mul_le_mul_right _ q8
  | vw hb hn =>
    rename_i v l e lo n
    simp only [Rel] at hu
    obtain ⟨A, c, rfl, h1, h2, hN, h3⟩ := hu
    have hlen : ((l.drop lo).take n).length = n := by rw [List.length_take, List.length_drop]; omega
    rw [hlen]
    by_cases h0 : n = 0
    · subst h0
      exact ⟨A, c, [], rfl, h1, h2, by simp [RelE], by simp, hN, fun h => absurd h (Nat.lt_irrefl _)⟩
    · obtain ⟨g, N, cap, rfl, rfl, h4⟩ := h3 (by omega)
      rcases (hr.2 _ hb).2.own_cases with ⟨A, _, rfl⟩ | ⟨b, cap', cur, xs, q6, _, q7, q8, q9, q10, q11, q12, q4, q5, q13, _⟩
      · simp at hn; omega
      injection q6 with q6 qN qc
      injection q6 with q6
      injection q6 with q6
      subst q6; subst qN; subst qc
      have hk1 : lo * k + n * k ≤ l.length * k := by rw [← Nat.add_mul]; exact Nat.mul_le_mul_right _ hn
      have hk2 : l.length * k ≤ cap * k := Nat.mul_le_mul_right _ q8
      refine ⟨_, c, (xs.drop (lo * k)).take (n * k), rfl, h1, h2, (q4.drop lo).take n, ?_, hN, fun _ => ⟨g, lo * k, cur, _, _, rfl, q7, by omega, ?_, .inr ⟨_, hb, q13⟩⟩⟩
      · intro y hy
        exact q5 y (List.mem_of_mem_drop (List.mem_of_mem_take hy))
      · rw [← q11, List.drop_take, List.take_take, Nat.min_eq_left (by omega)]
  | emp =>
    simp only [Rel] at hu
    obtain ⟨A, rfl⟩ := hu
    exact ⟨A, 0, [], rfl, Nat.le_refl _, Nat.zero_le _, by simp [RelE], by simp, fun _ => rfl, fun h => absurd h (Nat.lt_irrefl _)⟩
  | nil =>
    simp only [Rel] at hu
    obtain ⟨rfl, _⟩ := hu
    exact ⟨none, 0, [], rfl, Nat.le_refl _, Nat.zero_le _, by simp [RelE], by simp, fun _ => rfl, fun h => absurd h (Nat.lt_irrefl _)⟩
end
end Go.VM
