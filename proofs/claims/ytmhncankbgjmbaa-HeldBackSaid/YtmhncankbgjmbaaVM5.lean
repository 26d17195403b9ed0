import Derived.Test.YtmhncankbgjmbaaVM4
namespace Go.VM
open Go
set_option linter.unusedVariables false
set_option linter.unusedSimpArgs false
section
variable {P : Program} {t : Nat} {s : St} {K : St → Prop}
variable {d : Option Nat} {ty : Nat} {pos : String} {af : Array Edge} {gd : Option (Nat × Bool)} {h h' : Heap} {x y : Operand} {tm : List (Nat × AV)}
/-! ### Lengths, least and greatest -/
theorem run_len_slice {e k bs : Nat} {g : Bool} (he : elemQ P t = some (e, k, bs, g)) (A : Option Addr) (n c ty : Nat) (w : World) : (Builtin.len_ #[t] ty #[.slice A n c]).run P w = .ok (.int .i64 n) w := by
  simp [Builtin.len_, run_underlying (elemQ_spec he).1, goInt]
theorem pur_len {xt e k bs N : Nat} {g : Bool} {v : AV} {l : List AV} [he : TElem P xt e k bs g] (hx : evalA tm x = some v) (hs : SrcA h k v l) (hN : l.length = N) : PurV P ⟨d, .call { callee := .builtin .len, args := #[x], argTypes := #[xt] }, ty, pos, af, gd⟩ tm h (.val (.int .i64 (N : Int))) := by
  subst hN
  intro m a w0 ht g1 g2
  refine ⟨.int .i64 (l.length : Int), rel_val rfl, fun w => ?_⟩
  obtain ⟨A, c, ys, hu, _⟩ := hs.spec g1 g2 (ht.eval hx)
  simp [execOp, resolve, invoke, builtin, hu, run_len_slice he.h]
theorem pur_len_vw {xt e k bs lo n : Nat} {g : Bool} {v : Value} [he : TElem P xt e k bs g] (hx : evalA tm x = some (.vw v k lo n)) : PurV P ⟨d, .call { callee := .builtin .len, args := #[x], argTypes := #[xt] }, ty, pos, af, gd⟩ tm h (.val (.int .i64 (n : Int))) := by
  intro m a w0 ht g1 g2
  refine ⟨.int .i64 (n : Int), rel_val rfl, fun w => ?_⟩
  have hx := ht.eval hx
  simp only [Rel] at hx
  obtain ⟨A, c, hx, _⟩ := hx
  simp [execOp, resolve, invoke, builtin, hx, run_len_slice he.h]
theorem pur_len_str {xt : Nat} {b : ByteArray} [hs : TStr P xt] (hx : evalA tm x = some (.val (.string b))) : PurV P ⟨d, .call { callee := .builtin .len, args := #[x], argTypes := #[xt] }, ty, pos, af, gd⟩ tm h (.val (.int .i64 (b.size : Int))) :=
  pur_val fun m a ht w => by simp [execOp, resolve, invoke, builtin, eval_val ht hx, Builtin.len_, run_underlying hs.h, goInt]
section
variable {xt yt : Nat} {k : IntKind} {a b c : Int}
theorem pur_min (hx : evalA tm x = some (.val (.int k a))) (hy : evalA tm y = some (.val (.int k b))) : PurV P ⟨d, .call { callee := .builtin .min, args := #[x, y], argTypes := #[xt, yt] }, ty, pos, af, gd⟩ tm h (.val (.int k (min a b))) :=
  pur_val fun m ac ht w => by
    simp [execOp, resolve, invoke, builtin, eval_val ht hx, eval_val ht hy, Builtin.min_, Builtin.min2]
    split <;> omega
theorem pur_max (hx : evalA tm x = some (.val (.int k a))) (hy : evalA tm y = some (.val (.int k b))) : PurV P ⟨d, .call { callee := .builtin .max, args := #[x, y], argTypes := #[xt, yt] }, ty, pos, af, gd⟩ tm h (.val (.int k (max a b))) :=
  pur_val fun m ac ht w => by
    simp [execOp, resolve, invoke, builtin, eval_val ht hx, eval_val ht hy, Builtin.max_, Builtin.max2]
    split <;> omega
theorem pur_min3 {z : Operand} {zt : Nat} (hx : evalA tm x = some (.val (.int k a))) (hy : evalA tm y = some (.val (.int k b))) (hz : evalA tm z = some (.val (.int k c))) : PurV P ⟨d, .call { callee := .builtin .min, args := #[x, y, z], argTypes := #[xt, yt, zt] }, ty, pos, af, gd⟩ tm h (.val (.int k (min (min a b) c))) :=
  pur_val fun m ac ht w => by
    simp [execOp, resolve, invoke, builtin, eval_val ht hx, eval_val ht hy, eval_val ht hz, Builtin.min_, Builtin.min2]
    repeat' split
    all_goals omega
theorem pur_max3 {z : Operand} {zt : Nat} (hx : evalA tm x = some (.val (.int k a))) (hy : evalA tm y = some (.val (.int k b))) (hz : evalA tm z = some (.val (.int k c))) : PurV P ⟨d, .call { callee := .builtin .max, args := #[x, y, z], argTypes := #[xt, yt, zt] }, ty, pos, af, gd⟩ tm h (.val (.int k (max (max a b) c))) :=
  pur_val fun m ac ht w => by
    simp [execOp, resolve, invoke, builtin, eval_val ht hx, eval_val ht hy, eval_val ht hz, Builtin.max_, Builtin.max2]
    repeat' split
    all_goals omega
end
/-! ### Many operands -/
inductive Evals (tm : List (Nat × AV)) : List Operand → List AV → Prop
  | nil : Evals tm [] []
  | cons {x : Operand} {v : AV} {xs : List Operand} {vs : List AV} (h : evalA tm x = some v) (hr : Evals tm xs vs) : Evals tm (x :: xs) (v :: vs)
theorem Evals.rel {m : Ghost} {a : Act} (ht : TRel m tm a.tmps) {xs : List Operand} {vs : List AV} (h : Evals tm xs vs) : RelL m vs (xs.map a.eval) := by
  induction h with
  | nil => simp [RelL]
  | cons h _ ih =>
    simp only [List.map_cons, RelL]
    exact ⟨_, _, rfl, ht.eval h, ih⟩
theorem pur_makeFunc {f : Fn} {caps : Array Operand} {l : List AV} (hx : Evals tm caps.toList l) : PurV P ⟨d, .makeFunc f #[] caps, ty, pos, af, gd⟩ tm h (.clo f l) := by
  intro m a w0 ht g1 g2
  refine ⟨.func f #[] (caps.map a.eval), ?_, fun w => by simp [execOp, Instr.makeFunc]⟩
  simp only [Rel]
  exact ⟨_, rfl, by simpa using hx.rel ht⟩
/-! ### Structs and arrays made of parts -/
def placesQ (P : Program) (t : Nat) : Option (List (Nat × Nat)) :=
  match P.underlying t with
  | some (.struct fs) => fs.toList.mapM fun f => (P.info? f.type).map fun i => (f.offset, i.size)
  | _ => none
class TPlaces (P : Program) (t : Nat) (pl : outParam (List (Nat × Nat))) : Prop where h : placesQ P t = some pl
def splice {α : Type} (l : List α) (off : Nat) (ys : List α) : List α := l.take off ++ ys ++ l.drop (off + ys.length)
def fillA (pl : List (Nat × Nat)) : List AV → List (Nat × AV) → Option (List AV)
  | z, [] => some z
  | z, (i, v) :: r =>
    match pl[i]? with
    | some (off, n) => if v.cells.length = n ∧ off + n ≤ z.length then fillA pl (splice z off v.cells) r else none
    | none => none
theorem foldl_splice : ∀ (vs : List Value) (cs : Array Value) (off j : Nat), off + j + vs.length ≤ cs.size →
    ((vs.zipIdx j).foldl (fun (cs : Array Value) (c : Value × Nat) => cs.setIfInBounds (off + c.2) c.1) cs).toList = splice cs.toList (off + j) vs := by
  intro vs
  induction vs with
  | nil => intro cs off j _; simp [splice]
  | cons v vs ih =>
    intro cs off j hl
    simp only [List.zipIdx_cons, List.foldl_cons]
    rw [ih _ off (j + 1) (by simp at hl ⊢; omega)]
    simp only [List.length_cons] at hl
    unfold splice
    rw [Array.toList_setIfInBounds]
    have h1 : off + j < cs.toList.length := by simp; omega
    rw [List.drop_set_of_lt (by omega)]
    have e1 : (cs.toList.set (off + j) v).take (off + (j + 1)) = cs.toList.take (off + j) ++ [v] := by
      rw [show off + (j + 1) = (off + j) + 1 by omega, List.set_eq_take_append_cons_drop, if_pos h1]
      have hlen : (cs.toList.take (off + j)).length = off + j := by rw [List.length_take]; omega
      rw [List.take_append, List.take_of_length_le (by omega), hlen]
      simp
    rw [e1, show off + (j + 1) + vs.length = off + j + (vs.length + 1) by omega]
    simp
theorem fill_rel {m : Ghost} {pl : List (Nat × Nat)} : ∀ (ps : List (Nat × AV)) (vs : List (Nat × Value)) (z z' : List AV) (cs : Array Value), RelL m z cs.toList → ps.length = vs.length →
    (∀ (j : Nat) (p : Nat × AV) (q : Nat × Value), ps[j]? = some p → vs[j]? = some q → p.1 = q.1 ∧ Rel m p.2 q.2) → fillA pl z ps = some z' → ∃ cs', Instr.fill (pl[·]?) cs vs = some cs' ∧ RelL m z' cs'.toList := by
  intro ps
  induction ps with
  | nil =>
    intro vs z z' cs hz hl _ hf
    have : vs = [] := List.eq_nil_of_length_eq_zero (by simpa using hl.symm)
    subst this
    simp only [fillA] at hf
    injection hf with hf; subst hf
    exact ⟨cs, rfl, hz⟩
  | cons p ps ih =>
    intro vs z z' cs hz hl hr hf
    obtain ⟨i, v⟩ := p
    cases vs with
    | nil => simp at hl
    | cons q vs =>
      obtain ⟨i', u⟩ := q
      obtain ⟨h1, h2⟩ := hr 0 (i, v) (i', u) rfl rfl
      simp only at h1 h2
      subst h1
      simp only [fillA] at hf
      cases hp : pl[i]? with
      | none => simp [hp] at hf
      | some on =>
        obtain ⟨off, n⟩ := on
        simp only [hp] at hf
        split at hf
        · rename_i hc
          have hu := h2.cells
          have hul : u.cells.size = n := by rw [← hc.1, ← hu.length]; simp
          have hcs : cs.size = z.length := by rw [← hz.length]; simp
          have e1 := foldl_splice u.cells.toList cs off 0 (by simp; omega)
          have e2 : u.cells.zipIdx.foldl (fun cs (c, j) => cs.setIfInBounds (off + j) c) cs = (u.cells.toList.zipIdx.foldl (fun (cs : Array Value) (c : Value × Nat) => cs.setIfInBounds (off + c.2) c.1) cs) := by
            rw [← Array.foldl_toList, Array.toList_zipIdx]
          have hz' : RelL m (splice z off v.cells) (u.cells.zipIdx.foldl (fun cs (c, j) => cs.setIfInBounds (off + j) c) cs).toList := by
            rw [e2, e1, Nat.add_zero]
            exact relL_splice hz hu (by omega)
          obtain ⟨cs', g1, g2⟩ := ih vs _ z' _ hz' (by simpa using hl) (fun j p q hp hq => hr (j + 1) p q (by simpa using hp) (by simpa using hq)) hf
          refine ⟨cs', ?_, g2⟩
          simp only [Instr.fill, hp]
          rw [if_neg (by rw [hul]; simp; omega)]
          exact g1
        · cases hf
inductive EvalP (tm : List (Nat × AV)) : List (Nat × Operand) → List (Nat × AV) → Prop
  | nil : EvalP tm [] []
  | cons {i : Nat} {x : Operand} {v : AV} {xs : List (Nat × Operand)} {vs : List (Nat × AV)} (h : evalA tm x = some v) (hr : EvalP tm xs vs) : EvalP tm ((i, x) :: xs) ((i, v) :: vs)
theorem EvalP.spec {m : Ghost} {a : Act} (ht : TRel m tm a.tmps) {xs : List (Nat × Operand)} {vs : List (Nat × AV)} (h : EvalP tm xs vs) : vs.length = (xs.map fun (i, x) => (i, a.eval x)).length ∧
    ∀ (j : Nat) (p : Nat × AV) (q : Nat × Value), vs[j]? = some p → (xs.map fun (i, x) => (i, a.eval x))[j]? = some q → p.1 = q.1 ∧ Rel m p.2 q.2 := by
  induction h with
  | nil => exact ⟨rfl, fun j p q h _ => by simp at h⟩
  | cons h _ ih =>
    refine ⟨by simpa using ih.1, fun j p q hp hq => ?_⟩
    cases j with
    | zero => simp at hp hq; subst hp; subst hq; exact ⟨rfl, ht.eval h⟩
    | succ j => exact ih.2 j p q (by simpa using hp) (by simpa using hq)
theorem pur_build {bt : Nat} {z z' : List AV} {pl : List (Nat × Nat)} {ps : Array (Nat × Operand)} {vs : List (Nat × AV)} [hz : TZero P bt z] [hp : TPlaces P bt pl] (hx : EvalP tm ps.toList vs) (hf : fillA pl z vs = some z') : PurV P ⟨d, .build bt ps, ty, pos, af, gd⟩ tm h (.agg z') := by
  intro m a w0 ht g1 g2
  obtain ⟨i, v, hi, hv, rfl, hsz, hone⟩ := zeroQ_spec hz.h
  obtain ⟨h1, h2⟩ := hx.spec ht
  obtain ⟨cs', h3, h4⟩ := fill_rel vs (ps.toList.map fun (i, x) => (i, a.eval x)) _ z' v.cells (relL_vals m _ hone) h1 h2 hf
  refine ⟨.agg cs', by simp only [Rel]; exact ⟨_, rfl, h4⟩, fun w => ?_⟩
  have hpl := hp.h
  unfold placesQ at hpl
  split at hpl
  · rename_i fs hu
    have hb : P.built bt (ps.map fun (i, x) => (i, a.eval x)).toList = some cs' := by
      simp only [Program.built, hi, hu, hv, hpl]
      simpa using h3
    simp [execOp, run_build w bt _ cs' hb]
  · cases hpl
/-! ### Slices made -/
/-- Elements as cells, one behind the other. -/
theorem relE_vals {m : Ghost} {k : Nat} : ∀ {vs : List AV} {us : List Value}, RelL m vs us → (∀ v ∈ vs, v.cells.length = k) → RelE m k vs (us.flatMap fun u => u.cells.toList)
  | [], us, h, _ => by simp only [RelL] at h; subst h; simp [RelE]
  | x :: xs, us, h, hk => by
    simp only [RelL] at h
    obtain ⟨c, r, rfl, h1, h2⟩ := h
    simp only [List.flatMap_cons, RelE]
    refine ⟨c, _, rfl, ?_, h1, relE_vals h2 fun v hv => hk v (by simp [hv])⟩
    rw [← hk x (by simp), ← h1.cells.length]; simp
theorem relL_flat {m : Ghost} : ∀ {vs : List AV} {us : List Value}, RelL m vs us → RelL m (vs.flatMap AV.cells) (us.flatMap fun u => u.cells.toList)
  | [], us, h => by simp only [RelL] at h; subst h; simp [RelL]
  | x :: xs, us, h => by
    simp only [RelL] at h
    obtain ⟨c, r, rfl, h1, h2⟩ := h
    simp only [List.flatMap_cons]
    exact h1.cells.append (relL_flat h2)
theorem fill_row (k : Nat) (hk : 0 < k) : ∀ (us : List Value) (cs : Array Value) (j : Nat), (∀ u ∈ us, u.cells.size = k) → (j + us.length) * k ≤ cs.size →
    ∃ cs', Instr.fill (fun i => some (i * k, k)) cs ((us.zipIdx j).map fun (u, i) => (i, u)) = some cs' ∧ cs'.toList = splice cs.toList (j * k) (us.flatMap fun u => u.cells.toList) := by
  intro us
  induction us with
  | nil => intro cs j _ _; exact ⟨cs, rfl, by simp [splice]⟩
  | cons u us ih =>
    intro cs j hu hl
    have huk := hu u (by simp)
    simp only [List.length_cons] at hl
    have hjk : j * k + k ≤ cs.size := by
      have : (j + 1) * k ≤ (j + (us.length + 1)) * k := Nat.mul_le_mul_right _ (by omega)
      rw [Nat.succ_mul] at this; omega
    have e1 := foldl_splice u.cells.toList cs (j * k) 0 (by simp; omega)
    have e2 : u.cells.zipIdx.foldl (fun cs (c, i) => cs.setIfInBounds (j * k + i) c) cs = (u.cells.toList.zipIdx.foldl (fun (cs : Array Value) (c : Value × Nat) => cs.setIfInBounds (j * k + c.2) c.1) cs) := by
      rw [← Array.foldl_toList, Array.toList_zipIdx]
    rw [Nat.add_zero, ← e2] at e1
    have hsz : (u.cells.zipIdx.foldl (fun cs (c, i) => cs.setIfInBounds (j * k + i) c) cs).size = cs.size := by
      have := congrArg List.length e1
      rw [Array.length_toList] at this
      rw [this]
      simp [splice]; omega
    have hl' : (j + 1 + us.length) * k ≤ cs.size := by
      rw [show j + 1 + us.length = j + (us.length + 1) by omega]; exact hl
    obtain ⟨cs', g1, g2⟩ := ih (u.cells.zipIdx.foldl (fun cs (c, i) => cs.setIfInBounds (j * k + i) c) cs) (j + 1) (fun v hv => hu v (by simp [hv])) (by rw [hsz]; exact hl')
    refine ⟨cs', ?_, ?_⟩
    · simp only [List.zipIdx_cons, List.map_cons, Instr.fill]
      rw [if_neg (by rw [huk]; simp; omega)]
      exact g1
    · rw [g2, e1]
      unfold splice
      have hul : u.cells.toList.length = k := by simpa using huk
      have hlen : (cs.toList.take (j * k)).length = j * k := by rw [List.length_take]; simp; omega
      have e3 : (j + 1) * k = j * k + k := Nat.succ_mul _ _
      simp only [List.flatMap_cons, List.append_assoc, List.length_append]
      rw [e3, List.take_append, List.take_of_length_le (by omega), hlen, Nat.add_sub_cancel_left, List.take_left' hul]
      rw [show j * k + k + (us.flatMap fun u => u.cells.toList).length = j * k + (k + (us.flatMap fun u => u.cells.toList).length) by omega]
      rw [List.drop_append, List.drop_of_length_le (by omega), hlen, Nat.add_sub_cancel_left, List.nil_append, List.drop_append, List.drop_of_length_le (by omega), hul, Nat.add_sub_cancel_left, List.nil_append, List.drop_drop]
      simp only [List.append_assoc, Nat.add_assoc]
theorem relL_zipIdx {xs : List Operand} {a : Act} {n : Nat} : ((xs.zipIdx n).map fun (p : Operand × Nat) => (p.2, p.1)).map (fun (i, x) => (i, a.eval x)) = (((xs.map a.eval).zipIdx n).map fun (u, i) => (i, u)) := by
  simp only [List.zipIdx_map, List.map_map]
  rfl
/-- A slice of parts, each given, in their order. -/
theorem step_buildSlice {bt n e k bs : Nat} {g : Bool} {ps : Array (Nat × Operand)} {xs : List Operand} {vs : List AV} [he : TElem P bt e k bs g] (hps : ps.toList = (xs.zipIdx).map fun p => (p.2, p.1)) (hn : xs.length = n) (hx : Evals s.t xs vs)
    (hk : ∀ v ∈ vs, v.cells.length = k) (h1 : Ones s.h (vs.flatMap AV.cells)) (hbig : n * k ≤ 16777216) (hf : fits s d = true)
    (hK : ∀ v, K (({ s with h := .own v k vs e :: s.h } : St).put d (.val v))) : Step P ⟨d, .buildSlice bt n ps, ty, pos, af, gd⟩ s K := by
  intro m0 w0 a w ⟨m, hs⟩ Q
  obtain ⟨q1, q2, q3, i, z, hi, hsz, hby, hz, hzs⟩ := elemQ_spec he.h
  have hr := hx.rel hs.tmps
  have hvl : vs.length = n := by rw [← hr.length, List.length_map, hn]
  have hus : ∀ u ∈ xs.map a.eval, u.cells.size = k := by
    intro u hu
    obtain ⟨j, hj, rfl⟩ := List.getElem_of_mem hu
    have hj' : j < vs.length := by rw [← hr.length]; exact hj
    obtain ⟨c, c1, c2⟩ := hr.at j vs[j] (List.getElem?_eq_getElem hj')
    rw [List.getElem?_eq_getElem hj] at c1
    injection c1 with c1
    rw [c1, ← hk _ (List.getElem_mem hj'), ← c2.cells.length]; simp
  have hrow := relE_vals hr hk
  have hone : ∀ y ∈ (xs.map a.eval).flatMap (fun u => u.cells.toList), y.oneCell' = true := by
    have : RelL m (vs.flatMap AV.cells) ((xs.map a.eval).flatMap fun u => u.cells.toList) := relL_flat hr
    exact h1.spec hs.heap this
  unfold Oper.wp
  by_cases h0 : n = 0
  · subst h0
    have : xs = [] := List.eq_nil_of_length_eq_zero hn
    subst this
    have : vs = [] := List.eq_nil_of_length_eq_zero hvl
    subst this
    have hps' : ps = #[] := by apply Array.ext'; simpa using hps
    subst hps'
    have hrr : (execOp a.eval ⟨d, .buildSlice bt 0 #[], ty, pos, af, gd⟩).run P w = .ok (.value (.slice (some ⟨w.heap.size, 0, none⟩) 0 0)) (w.alloc (.cells #[] e)) := by
      simp [execOp, Instr.buildSlice, run_underlying q1, run_sizeOf q2, newRow, Instr.fill, Array.range_zero']
    rw [hrr]
    exact ⟨_, hK _, m, SimG.put (s := { s with h := _ :: s.h }) (hs.new_ (Same.alloc w _) (fun b hb => heap_old w _ b hb) (x := .own (.slice (some ⟨w.heap.size, 0, none⟩) 0 0) k [] e) (.inl ⟨_, rfl, rfl⟩) (fun b hb => by simp [OE.blk, ownBlk] at hb)) hf (rel_val rfl)⟩
  · have hpos : 0 < n * k := Nat.mul_pos (by omega) q3
    obtain ⟨cs', f1, f2⟩ := fill_row k q3 (xs.map a.eval) ((Array.range (n * k)).map (z.cells[· % z.cells.size]!)) 0 hus (by simp [hn])
    have hcs : cs'.toList = (xs.map a.eval).flatMap fun u => u.cells.toList := by
      rw [f2]
      unfold splice
      have hl : ((xs.map a.eval).flatMap fun u => u.cells.toList).length = n * k := by rw [hrow.length, hvl]
      rw [Nat.zero_mul, List.take_zero, List.nil_append, Nat.zero_add, hl, List.drop_of_length_le (by simp), List.append_nil]
    have hcsz : cs'.size = n * k := by
      have := congrArg List.length hcs
      rw [hrow.length, hvl] at this
      simpa using this
    have hrr : (execOp a.eval ⟨d, .buildSlice bt n ps, ty, pos, af, gd⟩).run P w = .ok (.value (.slice (some ⟨w.heap.size, 0, none⟩) n n)) (w.alloc (.cells cs' e)) := by
      have hparts : (ps.map fun (i, x) => (i, a.eval x)).toList = (((xs.map a.eval).zipIdx 0).map fun (u, i) => (i, u)) := by
        rw [Array.toList_map, hps]
        exact relL_zipIdx
      have hzv : (zeroValue e).run P w = .ok z w := by simp [zeroValue, typeInfo, hi, hz]
      simp only [execOp, Instr.buildSlice, run_underlying q1, run_sizeOf q2, Sem.run_bind, Result.andThen_ok]
      rw [if_neg (by omega), if_neg (by omega)]
      simp only [Sem.run_bind, hzv, Result.andThen_ok, Sem.run_pure, hparts, f1]
      simp [newRow]
    rw [hrr]
    have hbound : n ≤ maxLen := by
      have : n * 1 ≤ n * k := Nat.mul_le_mul_left _ q3
      simp only [maxLen]; omega
    refine ⟨_, hK _, m, SimG.put (s := { s with h := _ :: s.h }) (hs.new_ (Same.alloc w _) (fun b hb => heap_old w _ b hb) (x := .own (.slice (some ⟨w.heap.size, 0, none⟩) n n) k vs e) (oerel_own hvl.symm (by omega) (heap_new _ _) (by omega) hbound hcsz ?_ ?_) (fun b hb => ?_)) hf (rel_val rfl)⟩
    · rw [List.take_of_length_le (by rw [hcs, hrow.length]; exact Nat.le_refl _), hcs]; exact hrow
    · rw [List.take_of_length_le (by rw [hcs, hrow.length]; exact Nat.le_refl _), hcs]; exact hone
    · simp only [OE.blk, ownBlk] at hb
      rw [if_neg h0] at hb
      injection hb with hb; omega
end
end Go.VM
