import Derived.Test.YtmhncankbgjmbaaVM5
namespace Go.VM
open Go
set_option linter.unusedVariables false
set_option linter.unusedSimpArgs false
section
variable {P : Program} {t : Nat} {s : St} {K : St → Prop}
variable {d : Option Nat} {ty : Nat} {pos : String} {af : Array Edge} {gd : Option (Nat × Bool)} {h h' : Heap} {x y : Operand} {tm : List (Nat × AV)}
/-! ### append -/
theorem oerel_row {m : Ghost} {w : World} {v : Value} {k e N : Nat} {l : List AV} {zs : List Value} (h : w.ownsRow 0 e k v N zs) (hN : 0 < N) (hl : l.length = N) (hr : RelE m k l zs) (h1 : ∀ y ∈ zs, y.oneCell' = true) : OERel m w (.own v k l e) ∧ ∃ g cap, v = .slice (some ⟨g, 0, none⟩) N cap ∧ ownBlk v = some g := by
  have h' := h
  obtain ⟨q0, q1⟩ := h
  rcases q1 with ⟨_, q1⟩ | ⟨g, cap, cur, rfl, _, hg, r1, r2, r3, r4⟩
  · omega
  have hb : ownBlk (.slice (some ⟨g, 0, none⟩) N cap) = some g := by simp [ownBlk]; omega
  exact ⟨.inr ⟨g, hb, zs, by rw [hl]; exact h', hr, h1⟩, g, cap, rfl, hb⟩
theorem run_append_zero {e k bs : Nat} {g : Bool} (he : elemQ P t = some (e, k, bs, g)) {A B : Option Addr} {n c c' ty : Nat} (hn : n ≤ c) (w : World) :
    (Builtin.append_ #[t, t] ty #[.slice A n c, .slice B 0 c']).run P w = .ok (.slice A n c) w := by
  obtain ⟨q1, q2, q3, i, z, hi, hsz, hby, hz, hzs⟩ := elemQ_spec he
  cases A <;> cases B <;> simp [Builtin.append_, run_underlying q1, sizeOf, typeInfo, hi, Builtin.lenOf, hn, Builtin.firstCells, loadCells, loadCellsFrom, storeCells]
theorem run_append_o {m : Ghost} {w : World} {e k bs ty : Nat} {g : Bool} (he : elemQ P t = some (e, k, bs, g)) {v : Value} {l xs : List AV} (ho : OERel m w (.own v k l e)) {A : Option Addr} {c : Nat} {ys : List Value} (hr : RelE m k xs ys) (h1 : ∀ y ∈ ys, y.oneCell' = true)
    (hA : 0 < xs.length → ∃ b off cs e' fr, A = some ⟨b, off, none⟩ ∧ w.heap[b]? = some (.cells cs e' fr) ∧ off + xs.length * k ≤ cs.size ∧ (cs.toList.drop off).take (xs.length * k) = ys)
    (hb1 : l.length + xs.length ≤ maxLen) (hb2 : (l.length + xs.length) * bs ≤ 140737488355328) :
    ∃ v' w', (Builtin.append_ #[t, t] ty #[v, .slice A xs.length c]).run P w = .ok v' w' ∧ OERel m w' (.own v' k (l ++ xs) e) ∧ (∀ b, b < w.heap.size → ownBlk v ≠ some b → w'.heap[b]? = w.heap[b]?) ∧ Same w w' ∧ (∀ b, ownBlk v' = some b → ownBlk v = some b ∨ w.heap.size ≤ b) := by
  by_cases h0 : xs.length = 0
  · have : xs = [] := List.eq_nil_of_length_eq_zero h0
    subst this
    have hsh : ∃ A n c, v = .slice A n c ∧ n ≤ c := by
      rcases ho.own_cases with ⟨A, rfl, _⟩ | ⟨g', cap', cur, zs, rfl, hc0, q7, q8, _⟩
      · exact ⟨A, 0, 0, rfl, Nat.le_refl _⟩
      · exact ⟨_, _, _, rfl, q8⟩
    obtain ⟨A', n, c', rfl, hn⟩ := hsh
    exact ⟨_, w, run_append_zero he hn w, by rw [List.append_nil]; exact ho, fun _ _ _ => rfl, Same.refl w, fun b hb => .inl hb⟩
  · obtain ⟨q1, q2, q3, i, z, hi, hsz, hby, hz, hzs⟩ := elemQ_spec he
    obtain ⟨b, off, cs, e', fr, rfl, hbh, hof, hys⟩ := hA (by omega)
    have hl := hr.length
    have hnews : ∀ (j : Nat) (u : Value), ys[j]? = some u → w.cell? ((⟨b, off, none⟩ : Addr).add j) = some u := by
      intro j u hu
      rw [add_mk', cell_of hbh]
      rw [← hys, List.getElem?_take] at hu
      split at hu
      · rw [List.getElem?_drop] at hu; simpa using hu
      · cases hu
    subst hsz; subst hby
    rcases ho.own_cases with ⟨A, rfl, rfl⟩ | ⟨g', cap', cur, zs, rfl, hc0, q7, q8, q9, q10, q11, q12, q4, q5, q6, q13⟩
    · -- no capacity: a new row
      have hb1' : xs.length ≤ maxLen := by simpa using hb1
      have hb2' : xs.length * i.bytes ≤ 140737488355328 := by simpa using hb2
      have h63 : ((0 + xs.length : Nat) : Int) ≤ 9223372036854775807 := by simp only [maxLen] at hb1'; omega
      have hge := grownCap_ge w (0 + xs.length) 0 e
      have hcm := grownCap_le_maxLen w (0 + xs.length) 0 e (by simpa using hb1')
      have hrun : (Builtin.append_ #[t, t] ty #[.slice A 0 0, .slice (some ⟨b, off, none⟩) xs.length c]).run P w =
          .ok (.slice (some ⟨w.heap.size, 0, none⟩) (0 + xs.length) (grownCap w (0 + xs.length) 0 e)) (w.drew.alloc (.cells ((#[] : Array Value) ++ ys.toArray ++ Builtin.zeroCells z.cells (grownCap w (0 + xs.length) 0 e - (0 + xs.length))) e)) := by
        have hfit : Builtin.nextslicecap (0 + xs.length) 0 * i.bytes ≤ 281474976710656 := by rw [nextslicecap_zero (by omega), Nat.zero_add]; omega
        cases A with
        | none =>
          have := run_append_nil (P := P) w t ty e i z q1 hi hz ⟨b, off, none⟩ xs.length c ys hl hnews (by omega) (by omega) (by omega)
          simpa using this
        | some a0 => exact run_append_grow (P := P) w t ty e i z q1 hi hz a0 0 0 [] (by simp) (by simp) ⟨b, off, none⟩ xs.length c ys hl hnews (by omega) h63 hfit
      have hcur : ((#[] : Array Value) ++ ys.toArray ++ Builtin.zeroCells z.cells (grownCap w (0 + xs.length) 0 e - (0 + xs.length))).toList.take (xs.length * i.size) = ys := by
        simp only [Array.toList_append, Array.toList_empty, List.nil_append]
        rw [← hl]; exact List.take_left
      refine ⟨_, _, hrun, ?_, fun b' hb' _ => Go.RowKit.Below.heap_alloc w.drew _ b' hb', ⟨rfl, rfl, rfl, by simp⟩, fun b' hb' => ?_⟩
      · refine oerel_own (by simp) (by omega) (heap_alloc_new w.drew _) (by simp at hge ⊢; omega) hcm ?_ ?_ ?_
        · simp only [Array.size_append, List.size_toArray, size_zeroCells, hzs, hl, ← Nat.add_mul]
          simp
          rw [← Nat.add_mul]
          congr 1
          simp at hge
          omega
        · rw [List.nil_append, hcur]; exact hr
        · rw [List.nil_append, hcur]; exact h1
      · simp only [ownBlk] at hb'
        split at hb'
        · cases hb'
        · injection hb' with hb'; omega
    · obtain ⟨v', w', hrun, g2, g3, _, g5⟩ := run_append_own_at (P := P) w 0 t ty e i z i.size i.bytes q1 hi hz rfl rfl hzs q3 (.slice (some ⟨g', 0, none⟩) l.length cap') l.length zs q13 ⟨b, off, none⟩ xs.length c ys hl hnews h1 hb1 hb2 (Nat.zero_le _)
      obtain ⟨r1, g'', cap'', rfl, r2⟩ := oerel_row g2 (Nat.lt_of_lt_of_le (Nat.pos_of_ne_zero h0) (Nat.le_add_left _ _)) (by simp) (q4.append hr) (by intro y hy; rw [List.mem_append] at hy; rcases hy with hy | hy; exact q5 y hy; exact h1 y hy)
      refine ⟨_, w', hrun, r1, fun b' hb' hne => g3.block b' hb' (fun e => hne ?_), Same.of_grown g3, fun b' hb' => ?_⟩
      · rw [q6]; simp [Value.ownBlock] at e; rw [e]
      · rw [r2] at hb'
        injection hb' with hb'
        subst hb'
        rcases g5 with g5 | g5
        · left; rw [q6]; simp [Value.ownBlock] at g5; rw [g5]
        · right; simp [Value.ownBlock] at g5; omega
theorem step_append {xt e k bs : Nat} {g : Bool} {v : Value} {l xs : List AV} {sv : AV} [he : TElem P xt e k bs g] (hx : evalA s.t x = some (.val v)) (ho : OE.own v k l e ∈ s.h) (hy : evalA s.t y = some sv) (hs : SrcA s.h k sv xs)
    (hb : (l.length + xs.length) * bs ≤ 140737488355328) (hb1 : l.length + xs.length ≤ 9223372036854775807) (hf : fits s d = true) (hK : ∀ v', ∃ h', Up s.h (.own v k l e) (.own v' k (l ++ xs) e) h' ∧ K (({ s with h := h' } : St).put d (.val v'))) :
    Step P ⟨d, .call { callee := .builtin .append, args := #[x, y], argTypes := #[xt, xt] }, ty, pos, af, gd⟩ s K := by
  intro m0 w0 a w ⟨m, hsim⟩ Q
  obtain ⟨A, c, ys, hu, h1, h2, h3, h4, h5, h6⟩ := hs.spec hsim.holds hsim.heap (hsim.tmps.eval hy)
  obtain ⟨hnone, q0⟩ := hsim.heap.2 _ ho
  obtain ⟨v', w', hr, g1, g2, g3, g4⟩ := run_append_o (ty := ty) (c := c) (A := A) he.h q0 h3 h4 (fun hp => by
    obtain ⟨b, off, cs, e', fr, k1, k2, k3, k4, _⟩ := h6 hp
    exact ⟨b, off, cs, e', fr, k1, k2, k3, k4⟩) (by simpa [maxLen] using hb1) hb
  unfold Oper.wp
  have hrr : (execOp a.eval ⟨d, .call { callee := .builtin .append, args := #[x, y], argTypes := #[xt, xt] }, ty, pos, af, gd⟩).run P w = .ok (.value v') w' := by
    simp [execOp, resolve, invoke, builtin, eval_val hsim.tmps hx, hu, hr]
  rw [hrr]
  obtain ⟨h', hup, hk⟩ := hK v'
  exact ⟨_, hk, m, SimG.put (s := { s with h := h' }) (hsim.up hup g3 (fun b o hb' => g2 b (hsim.holds.lt hb') (fun e => by rw [hnone b e] at hb'; cases hb')) g2 g1 g4) hf (rel_val (own_one g1))⟩
theorem hrel_nil {m : Ghost} {w : World} {k e : Nat} (hr : HRel m h w) : HRel m (.own (.slice none 0 0) k [] e :: h) w := by
  refine ⟨by simpa [List.filterMap_cons, OE.blk, ownBlk] using hr.1, fun x hx => ?_⟩
  simp at hx
  rcases hx with rfl | hx
  · exact ⟨fun b hb => by simp [OE.blk, ownBlk] at hb, .inl ⟨none, rfl, rfl⟩⟩
  · exact hr.2 x hx
theorem Sim.nil_ {m0 : GF} {w0 w : World} {a : Act} (k e : Nat) (hs : Sim m0 w0 s a w) : Sim m0 w0 { s with h := .own (.slice none 0 0) k [] e :: s.h } a w := by
  obtain ⟨m, hm⟩ := hs
  have ho : ∀ x ∈ (OE.own (.slice none 0 0) k [] e :: s.h), ∀ b, x.blk = some b → m0.2 b ∨ w0.heap.size ≤ b := by
    intro x hx b hb
    simp at hx
    rcases hx with rfl | hx
    · simp [OE.blk, ownBlk] at hb
    · exact hm.own x hx b hb
  exact ⟨m, { hm with heap := hrel_nil hm.heap, own := ho }⟩
/-- A nil slice is owned for nothing. -/
theorem W.nil_ {c : Code} {Q : Exit → St → Prop} (k e : Nat) (hw : W P c Q { s with h := .own (.slice none 0 0) k [] e :: s.h }) : W P c Q s :=
  fun m0 w0 a w hs => hw m0 w0 a w (hs.nil_ k e)
theorem RL.nil_ {ops : Array Oper} {rest : List Oper} (k e : Nat) (hw : RL P ops rest { s with h := .own (.slice none 0 0) k [] e :: s.h } K) : RL P ops rest s K :=
  fun i hi m0 w0 a w hs => hw i hi m0 w0 a w (hs.nil_ k e)
theorem step_append_nil {xt e k bs : Nat} {g : Bool} {xs : List AV} {sv : AV} [he : TElem P xt e k bs g] (hx : evalA s.t x = some (.val (.slice none 0 0))) (hy : evalA s.t y = some sv) (hs : SrcA s.h k sv xs)
    (hb : xs.length * bs ≤ 140737488355328) (hb1 : xs.length ≤ 9223372036854775807) (hf : fits s d = true) (hK : ∀ v', K (({ s with h := .own v' k xs e :: s.h } : St).put d (.val v'))) :
    Step P ⟨d, .call { callee := .builtin .append, args := #[x, y], argTypes := #[xt, xt] }, ty, pos, af, gd⟩ s K := by
  intro m0 w0 a w hsim Q
  have hs' : SrcA (.own (.slice none 0 0) k [] e :: s.h) k sv xs := by
    cases hs with
    | ro l => exact .ro _
    | own q => exact .own (List.mem_cons_of_mem _ q)
    | vw q hn => exact .vw (List.mem_cons_of_mem _ q) hn
    | emp => exact .emp
    | nil => exact .nil
  exact step_append (s := { s with h := .own (.slice none 0 0) k [] e :: s.h }) (l := []) hx (by simp) hy hs' (by simpa using hb) (by simpa using hb1) hf (fun v' => ⟨_, .here, by simpa using hK v'⟩) m0 w0 a w (hsim.nil_ k e) Q
/-! ### A row made anew -/
def zelQ (P : Program) (e : Nat) : Option AV :=
  match P.info? e with
  | some i => match i.zero with
    | some (.agg cs) => if cs.size = i.size ∧ cs.all (·.oneCell') = true then some (.agg (cs.toList.map .val)) else none
    | some z => if z.oneCell' = true ∧ i.size = 1 then some (.val z) else none
    | none => none
  | none => none
class TZel (P : Program) (e : Nat) (z : outParam AV) : Prop where h : zelQ P e = some z
theorem zelQ_spec {e : Nat} {z : AV} (h : zelQ P e = some z) : ∃ i u, P.info? e = some i ∧ i.zero = some u ∧ (∀ m, Rel m z u) ∧ u.cells.size = i.size ∧ (∀ y ∈ u.cells.toList, y.oneCell' = true ∨ ∃ cs, z = .agg cs) := by
  unfold zelQ at h
  split at h
  · rename_i i hi
    split at h
    · rename_i cs hz
      split at h
      · rename_i hs
        injection h with h
        subst h
        exact ⟨i, _, hi, hz, fun m => by simp only [Rel]; exact ⟨_, rfl, relL_vals m _ fun c hc => by simpa using (Array.all_eq_true_iff_forall_mem.1 hs.2) c (by simpa using hc)⟩, hs.1, fun _ _ => .inr ⟨_, rfl⟩⟩
      · cases h
    · rename_i z' hna hz
      split at h
      · rename_i hc
        injection h with h
        subst h
        have : z'.cells = #[z'] := by
          cases z' <;> first | rfl | (simp [Value.oneCell'] at hc)
        refine ⟨i, _, hi, hz, fun m => rel_val hc.1, by rw [this, hc.2]; rfl, fun y hy => ?_⟩
        rw [this] at hy
        simp at hy
        subst hy
        exact .inl hc.1
      · cases h
    · cases h
  · cases h
theorem made_list (z : Array Value) (hk : 0 < z.size) : ∀ n, (madeCells z (n * z.size)).toList = (List.replicate n z.toList).flatten := by
  intro n
  have e0 : (madeCells z (n * z.size)).toList = (List.range (n * z.size)).map (fun j => z[j % z.size]!) := by simp [madeCells]
  rw [e0]
  clear e0
  induction n with
  | zero => simp
  | succ n ih =>
    rw [Nat.succ_mul, List.range_add, List.map_append, ih, List.replicate_succ', List.flatten_append]
    congr 1
    simp only [List.map_map, List.flatten_cons, List.flatten_nil, List.append_nil]
    apply List.ext_getElem (by simp)
    intro j h1 h2
    simp at h1 h2
    simp [Nat.mod_eq_of_lt h2, h2]
theorem relE_zero {m : Ghost} {k : Nat} {el : AV} {z : Value} (hr : Rel m el z) (hz : z.cells.size = k) (hk : 0 < k) : ∀ n, RelE m k (List.replicate n el) (madeCells z.cells (n * k)).toList := by
  intro n
  subst hz
  rw [made_list _ hk]
  induction n with
  | zero => simp [RelE]
  | succ n ih =>
    simp only [List.replicate_succ, List.flatten_cons, RelE]
    exact ⟨z, _, rfl, rfl, hr, ih⟩
theorem one_made {z : Array Value} {n : Nat} (hk : 0 < z.size) (h : ∀ y ∈ z.toList, y.oneCell' = true) : ∀ y ∈ (madeCells z n).toList, y.oneCell' = true := by
  intro y hy
  simp only [madeCells, Array.toList_map, List.mem_map] at hy
  obtain ⟨j, _, rfl⟩ := hy
  have : j % z.size < z.size := Nat.mod_lt _ hk
  rw [getElem!_pos z (j % z.size) this]
  exact h _ (by simp)
/-- 'make' of n elements, room for c. -/
theorem step_make {bt e k bs n c : Nat} {g : Bool} {kl kc : IntKind} {i1 i2 : Int} {z : AV} [he : TElem P bt e k bs g] [hz : TZel P e z] (hx : evalA s.t x = some (.val (.int kl i1))) (hy : evalA s.t y = some (.val (.int kc i2))) (hn : i1 = (n : Int)) (hc : i2 = (c : Int)) (hnc : n ≤ c)
    (ho : z.cells.all AV.one = true) (hb : bs * c ≤ 281474976710656) (hb1 : c ≤ 9223372036854775807) (hf : fits s d = true) (hK : ∀ v, K (({ s with h := .own v k (List.replicate n z) e :: s.h } : St).put d (.val v))) :
    Step P ⟨d, .makeSlice bt x y, ty, pos, af, gd⟩ s K := by
  intro m0 w0 a w ⟨m, hs⟩ Q
  subst hn; subst hc
  obtain ⟨q1, q2, q3, i, zv, hi, hsz, hby, hzv, hzs⟩ := elemQ_spec he.h
  obtain ⟨i', u, hi', hu, hrel, hus, _⟩ := zelQ_spec hz.h
  rw [hi] at hi'; injection hi' with hi'; subst hi'
  rw [hzv] at hu; injection hu with hu; subst hu
  have hone : ∀ y ∈ zv.cells.toList, y.oneCell' = true := by
    have h1 := (hrel m).cells
    intro y hy
    obtain ⟨j, hj, rfl⟩ := List.getElem_of_mem hy
    have hjz : j < z.cells.length := by rw [← h1.length]; exact hj
    obtain ⟨cc, c1, c2⟩ := h1.at j _ (List.getElem?_eq_getElem hjz)
    rw [List.getElem?_eq_getElem hj] at c1
    injection c1 with c1
    rw [c1]
    exact c2.one (List.all_eq_true.1 ho _ (List.getElem_mem hjz))
  have hr := run_makeSlice (P := P) w bt e i zv q1 hi hzv kl kc n c (by omega) (by omega)
  unfold Oper.wp
  have hmk : (Instr.makeSlice bt (.int kl (n : Int)) (.int kc (c : Int))).run P w = .ok (.slice (some ⟨w.heap.size, 0, none⟩) n c) (w.alloc (.cells (madeCells zv.cells (c * k)) e)) := by
    have hbi : (i.bytes : Int) * (c : Int) ≤ 281474976710656 := by
      have h : ((i.bytes * c : Nat) : Int) ≤ 281474976710656 := by rw [hby]; omega
      rwa [Int.natCast_mul] at h
    have := run_make (P := P) w bt e i zv q1 hi hzv kl kc n c (by omega) (by omega) hbi (by omega)
    simpa [hsz] using this
  have hrr : (execOp a.eval ⟨d, .makeSlice bt x y, ty, pos, af, gd⟩).run P w = .ok (.value (.slice (some ⟨w.heap.size, 0, none⟩) n c)) (w.alloc (.cells (madeCells zv.cells (c * k)) e)) := by
    simp [execOp, eval_val hs.tmps hx, eval_val hs.tmps hy, hmk]
  rw [hrr]
  have hcm : c ≤ maxLen := by simp only [maxLen]; omega
  have hkz : 0 < zv.cells.size := by rw [hzs]; exact q3
  have htake : (madeCells zv.cells (c * k)).toList.take (n * k) = (madeCells zv.cells (n * k)).toList := by
    rw [← hzs, made_list _ hkz, made_list _ hkz]
    have : c = n + (c - n) := by omega
    rw [this, ← List.replicate_append_replicate, List.flatten_append]
    apply List.take_left'
    simp [List.length_flatten]
  have hrow : OERel m (w.alloc (.cells (madeCells zv.cells (c * k)) e)) (.own (.slice (some ⟨w.heap.size, 0, none⟩) n c) k (List.replicate n z) e) := by
    by_cases hc0 : c = 0
    · subst hc0
      have : n = 0 := by omega
      subst this
      exact .inl ⟨_, rfl, rfl⟩
    · refine oerel_own (by simp) (by omega) (heap_new _ _) (by simpa using hnc) hcm (size_madeCells _ _) ?_ ?_
      · rw [List.length_replicate, htake]
        exact relE_zero (hrel m) hzs q3 n
      · rw [List.length_replicate, htake]
        exact one_made hkz hone
  exact ⟨_, hK _, m, SimG.put (s := { s with h := _ :: s.h }) (hs.new_ (Same.alloc w _) (fun b hb => heap_old w _ b hb) hrow (fun b hb => by
    simp only [OE.blk, ownBlk] at hb
    split at hb
    · cases hb
    · injection hb with hb; omega)) hf (rel_val rfl)⟩
/-! ### copy -/
theorem step_copy {xt yt e k bs lo n : Nat} {g : Bool} {v : Value} {l xs : List AV} {dv sv : AV} [he : TElem P xt e k bs g] (hx : evalA s.t x = some dv) (hd : dv = .vw v k lo n ∨ dv = .val v ∧ lo = 0 ∧ n = l.length) (hy : evalA s.t y = some sv) (hs : SrcA s.h k sv xs)
    (hn : xs.length ≤ n) (hln : lo + n ≤ l.length) (hu : Up s.h (.own v k l e) (.own v k (splice l lo xs) e) h') (hf : fits s d = true) (hK : K (({ s with h := h' } : St).put d (.val (.int .i64 (xs.length : Int))))) :
    Step P ⟨d, .call { callee := .builtin .copy, args := #[x, y], argTypes := #[xt, yt] }, ty, pos, af, gd⟩ s K := by
  intro m0 w0 a w ⟨m, hsim⟩ Q
  obtain ⟨q1, q2, q3, i, zv, hi, hsz, hby, hzv, hzs⟩ := elemQ_spec he.h
  obtain ⟨A, c, ys, hyv, h1, h2, h3, h4, h5, h6⟩ := hs.spec hsim.holds hsim.heap (hsim.tmps.eval hy)
  obtain ⟨hnone, q0⟩ := hsim.heap.2 _ hu.old
  -- the destination's value
  obtain ⟨D, dc, hdv, hD⟩ : ∃ D dc, a.eval x = .slice D n dc ∧ (0 < n → ∃ b N cap, v = .slice (some ⟨b, 0, none⟩) N cap ∧ D = some ⟨b, lo * k, none⟩) := by
    have hx' := hsim.tmps.eval hx
    rcases hd with rfl | ⟨rfl, rfl, rfl⟩
    · simp only [Rel] at hx'
      obtain ⟨D, dc, hx', _, _, _, hD⟩ := hx'
      exact ⟨D, dc, hx', fun hp => by obtain ⟨b, N, cap, e1, e2, _⟩ := hD hp; exact ⟨b, N, cap, e1, e2⟩⟩
    · simp only [Rel] at hx'
      have hx' := hx'.1
      rcases q0.own_cases with ⟨A, rfl, rfl⟩ | ⟨b, cap, cur, zs, rfl, _⟩
      · exact ⟨A, 0, hx', fun h => absurd h (Nat.lt_irrefl _)⟩
      · exact ⟨_, cap, hx', fun _ => ⟨b, _, cap, rfl, by simp⟩⟩
  have hlen := h3.length
  unfold Oper.wp
  by_cases h0 : xs.length = 0
  · have : xs = [] := List.eq_nil_of_length_eq_zero h0
    subst this
    have hsp : splice l lo [] = l := by simp [splice]
    rw [hsp] at hu
    have hys : ys = [] := List.eq_nil_of_length_eq_zero (by simpa using hlen)
    have hrr : (execOp a.eval ⟨d, .call { callee := .builtin .copy, args := #[x, y], argTypes := #[xt, yt] }, ty, pos, af, gd⟩).run P w = .ok (.value (.int .i64 0)) w := by
      cases A <;> cases D <;> simp [execOp, resolve, invoke, builtin, hdv, hyv, Builtin.copy_, run_underlying q1, Builtin.lenOf, Builtin.firstCells, run_sizeOf q2, loadCells, loadCellsFrom, storeCells, goInt]
    rw [hrr]
    exact ⟨_, hK, m, SimG.put (s := { s with h := h' }) (hsim.up hu (Same.refl w) (fun _ _ _ => rfl) (fun _ _ _ => rfl) q0 (fun b hb => .inl hb)) hf (rel_val rfl)⟩
  · obtain ⟨b, N, cap, rfl, rfl⟩ := hD (by omega)
    rcases q0.own_cases with ⟨A', hA', rfl⟩ | ⟨b', cap', cur, zs, hv', hc0, q7, q8, q9, q10, q11, q12, q4, q5, q6, q13⟩
    · simp at hln; omega
    injection hv' with hv' hN hcap
    injection hv' with hv'
    injection hv' with hv'
    subst hv'; subst hN; subst hcap
    obtain ⟨b2, off, cs, e', fr, rfl, k1, k2, k3, _⟩ := h6 (by omega)
    have hk1 : lo * k + xs.length * k ≤ l.length * k := by rw [← Nat.add_mul]; exact Nat.mul_le_mul_right _ (by omega)
    have hk2 : l.length * k ≤ cur.size := by rw [q10]; exact Nat.mul_le_mul_right _ q8
    have hcells : (loadCells ⟨b2, off, none⟩ (xs.length * k)).run P w = .ok ys.toArray w := by
      have := run_loadCells_list (P := P) (w := w) ⟨b2, off, none⟩ ys (fun j u hu => by
        rw [add_mk', cell_of k1]
        rw [← k3, List.getElem?_take] at hu
        split at hu
        · rw [List.getElem?_drop] at hu; simpa using hu
        · cases hu)
      rwa [hlen] at this
    have hst := run_storeCells_at P b (lo * k) e ys 0 cur w q7 (by omega) h4
    simp only [Nat.add_zero] at hst
    have hmin : Nat.min xs.length n = xs.length := Nat.min_eq_left hn
    have hrr : (execOp a.eval ⟨d, .call { callee := .builtin .copy, args := #[x, y], argTypes := #[xt, yt] }, ty, pos, af, gd⟩).run P w = .ok (.value (.int .i64 (xs.length : Int))) (w.setRow b (cur.toList.take (lo * k) ++ ys ++ cur.toList.drop (lo * k + ys.length)).toArray) := by
      simp [execOp, resolve, invoke, builtin, hdv, hyv, Builtin.copy_, run_underlying q1, Builtin.lenOf, Builtin.firstCells, run_sizeOf q2, hmin, hcells, goInt]
      rw [← List.append_assoc, hst]
      simp
    rw [hrr]
    have hcur : (cur.toList.take (lo * k) ++ ys ++ cur.toList.drop (lo * k + ys.length)).take (l.length * k) = zs.take (lo * k) ++ ys ++ zs.drop (lo * k + ys.length) := by
      rw [take_splice rfl (by omega) (by simpa using hk2), q11]
    have hspl : (splice l lo xs).length = l.length := by simp [splice]; omega
    have hrel : RelE m k (splice l lo xs) (zs.take (lo * k) ++ ys ++ zs.drop (lo * k + ys.length)) := by
      unfold splice
      have e1 : lo * k + ys.length = (lo + xs.length) * k := by rw [hlen, Nat.add_mul]
      rw [e1]
      exact ((q4.take lo).append h3).append (q4.drop _)
    refine ⟨_, hK, m, SimG.put (s := { s with h := h' }) (hsim.up hu (Same.setRow _ _ _) (fun b' o ho => setRow_ne w b b' _ ?_) (fun b' hb' hne => setRow_ne w b b' _ (fun e => hne (by rw [e]; exact q6)))
      (own_set q0 hspl rfl hc0 q7 (setRow_at w b _ q7) (by simp; omega) ?_ ?_) (fun b' hb' => .inl hb')) hf (rel_val rfl)⟩
    · intro e; subst e; rw [hnone b' q6] at ho; cases ho
    · show RelE m k (splice l lo xs) ((cur.toList.take (lo * k) ++ ys ++ cur.toList.drop (lo * k + ys.length)).take (l.length * k))
      rw [hcur]; exact hrel
    · show ∀ y' ∈ (cur.toList.take (lo * k) ++ ys ++ cur.toList.drop (lo * k + ys.length)).take (l.length * k), _
      rw [hcur]; exact mem_splice q5 h4
/-! ### An owned slice cut at its end -/
theorem step_trunc {xt e k bs hi : Nat} {g : Bool} {v : Value} {l : List AV} {x1 x2 : Option Operand} [he : TElem P xt e k bs g] (hx : evalA s.t x = some (.val v)) (ho : OE.own v k l e ∈ s.h) (h1 : bndA s.t 0 x1 0) (h2 : bndA s.t l.length x2 hi) (hh : hi ≤ l.length) (hf : fits s d = true)
    (hK : ∀ u, ∃ h', Up s.h (.own v k l e) (.own u k (l.take hi) e) h' ∧ K (({ s with h := h' } : St).put d (.val u))) : Step P ⟨d, .slice xt x x1 x2 none, ty, pos, af, gd⟩ s K := by
  intro m0 w0 a w ⟨m, hs⟩ Q
  obtain ⟨hnone, q0⟩ := hs.heap.2 _ ho
  have hx' := eval_val hs.tmps hx
  unfold Oper.wp
  rcases q0.own_cases with ⟨A, rfl, rfl⟩ | ⟨b, cap, cur, zs, rfl, hc0, q7, q8, q9, q10, q11, q12, q4, q5, q6, q13⟩
  · have : hi = 0 := by simpa using hh
    subst this
    have hr := run_slice_any he.h hs.tmps (A := A) (n := 0) (c := 0) h1 h2 (Nat.zero_le _) (Nat.zero_le _) (Nat.le_refl _) w
    have hrr : (execOp a.eval ⟨d, .slice xt x x1 x2 none, ty, pos, af, gd⟩).run P w = .ok (.value (.slice A 0 0)) w := by
      simp only [execOp, hx', Option.map_none, Sem.run_bind, hr, Result.andThen_ok, Sem.run_pure]
      simp
    rw [hrr]
    obtain ⟨h', hup, hk⟩ := hK (.slice A 0 0)
    exact ⟨_, hk, m, SimG.put (s := { s with h := h' }) (hs.up hup (Same.refl w) (fun _ _ _ => rfl) (fun _ _ _ => rfl) (.inl ⟨_, rfl, rfl⟩) (fun b hb => .inl hb)) hf (rel_val rfl)⟩
  · have hr := run_slice_any he.h hs.tmps (A := some ⟨b, 0, none⟩) (n := l.length) (c := cap) h1 h2 (Nat.zero_le _) hh q8 w
    have hrr : (execOp a.eval ⟨d, .slice xt x x1 x2 none, ty, pos, af, gd⟩).run P w = .ok (.value (.slice (some ⟨b, 0, none⟩) hi cap)) w := by
      simp only [execOp, hx', Option.map_none, Sem.run_bind, hr, Result.andThen_ok, Sem.run_pure]
      rw [if_neg (by omega)]
      simp [add_mk']
    rw [hrr]
    obtain ⟨h', hup, hk⟩ := hK (.slice (some ⟨b, 0, none⟩) hi cap)
    have hkk : hi * k ≤ l.length * k := Nat.mul_le_mul_right _ hh
    have htk : cur.toList.take ((l.take hi).length * k) = zs.take (hi * k) := by
      rw [List.length_take, Nat.min_eq_left hh, ← q11, List.take_take, Nat.min_eq_left hkk]
    refine ⟨_, hk, m, SimG.put (s := { s with h := h' }) (hs.up hup (Same.refl w) (fun _ _ _ => rfl) (fun _ _ _ => rfl) (oerel_own (by simp; omega) hc0 q7 (by simp; omega) q9 q10 ?_ ?_) (fun b' hb => .inl ?_)) hf (rel_val rfl)⟩
    · rw [htk]; exact q4.take hi
    · rw [htk]; exact fun y hy => q5 y (List.mem_of_mem_take hy)
    · simpa [OE.blk, ownBlk] using hb
end
end Go.VM
