import Derived.Test.YtmfbfbhkjclhkaaU4
import Derived.Test.YtmfbfbhkjclhkaaC2
/- A call of yield in a region that draws its order. No condition. -/
namespace Go.VM
open Go
set_option linter.unusedVariables false
set_option linter.unusedSimpArgs false
section
variable {ro : Option Nat} {P : Program} {ops : Array Oper} {K : St → Prop} {n : Nat} {hro : Heap} {todo todo' : List Nat} {t : List (Nat × AV)} {h : Heap} {oi : Oper} {i d : Nat} {v : AV}
end
end Go.VM
namespace Go.VM
open Go
section
variable {P : Program} {tm : List (Nat × AV)} {h : Heap} {d : Option Nat} {x y : Operand} {ty : TypeId} {pos : String} {af : Array Edge} {gd : Option (Nat × Bool)}
end
end Go.VM

/- A piece of an immutable slice, cut with its capacity. No condition. -/
namespace Go.VM
open Go
set_option linter.unusedVariables false
set_option linter.unusedSimpArgs false
section
variable {P : Program} {t : List (Nat × AV)} {h : Heap} {d : Option Nat} {x x1 x2 x3 : Operand} {ty : TypeId} {pos : String} {af : Array Edge} {gd : Option (Nat × Bool)}
/-- s[lo:hi:hi], not empty. -/
theorem pur_slice3x_ro {xt e k bs lo hi : Nat} {g : Bool} {l : List AV} {k1 k2 k3 : IntKind} [he : TElem P xt e k bs g] (hx : evalA t x = some (.ro k l)) (h1 : evalA t x1 = some (.val (.int k1 (lo : Int)))) (h2 : evalA t x2 = some (.val (.int k2 (hi : Int)))) (h3 : evalA t x3 = some (.val (.int k3 (hi : Int)))) (hl : lo < hi) (hh : hi ≤ l.length) :
    PurV P ⟨d, .slice xt x (some x1) (some x2) (some x3), ty, pos, af, gd⟩ t h (.ro k ((l.drop lo).take (hi - lo))) := fun m a w0 ht g1 g2 => by
  obtain ⟨q1, q2, q3, _⟩ := elemQ_spec he.h
  have hx := ht.eval hx
  simp only [Rel] at hx
  obtain ⟨A, c, hx, p1, p2, p3, p4⟩ := hx
  have e1 := eval_val ht h1
  have e2 := eval_val ht h2
  have e3 := eval_val ht h3
  have hlen : ((l.drop lo).take (hi - lo)).length = hi - lo := by rw [List.length_take, List.length_drop]; omega
  obtain ⟨b, off, cs, e', fr, rfl, w2, w3, w4, w5⟩ := p4 (by intro h; subst h; simp at hh; omega)
  refine ⟨.slice (some ⟨b, off + lo * k, none⟩) (hi - lo) (hi - lo), ?_, fun w => ?_⟩
  · simp only [Rel]
    rw [hlen]
    refine ⟨_, _, rfl, Nat.le_refl _, by omega, fun hA => (by cases hA), fun hne => ?_⟩
    have hm : (hi - lo) * k ≤ l.length * k - lo * k := by rw [← Nat.sub_mul]; exact Nat.mul_le_mul_right _ (by omega)
    have hm2 : lo * k ≤ l.length * k := Nat.mul_le_mul_right _ (by omega)
    have e1 : (cs.toList.drop (off + lo * k)).take ((hi - lo) * k) = (((cs.toList.drop off).take (l.length * k)).drop (lo * k)).take ((hi - lo) * k) := by
      rw [List.drop_take, List.drop_drop, List.take_take, Nat.min_eq_left (by omega)]
    refine ⟨b, off + lo * k, cs, e', fr, rfl, w2, by omega, ?_, ?_⟩
    · rw [e1]; exact (w4.drop lo).take _
    · rw [e1]
      intro y hy
      exact w5 y (List.mem_of_mem_drop (List.mem_of_mem_take hy))
  · have c1 : hi - lo ≠ 0 := by omega
    simp [execOp, hx, e1, e2, e3, Instr.sliceAt, Instr.slice, Instr.sliceBounds, Instr.sliceBound, run_underlying q1, run_sizeOf q2, asIntOf, add_mk']
    rw [if_pos (by omega), if_pos (by omega), if_neg (by omega)]
end
end Go.VM

/- slices.Chunk of four at a time. No condition. -/
namespace Go.Proofs.Ytmfbfbhkjclhkaa
open Go Go.VM
attribute [local irreducible] PurV Pur Step RL W D ACalls Then InBlock Fini
set_option linter.unusedVariables false
set_option linter.unusedSimpArgs false
set_option maxHeartbeats 20000000
instance tf_chunk1 : TFun Try.prog 53 := ⟨by kernel_rfl⟩
set_option maxRecDepth 100000 in
theorem chunk_c (l : List Int) (h : Heap) : ACalls Try.prog 34 [.ro 1 (ints .i64 l), .val (.int .i64 (4))] h (fun r h' => ∃ g1 g2, r = .clo (.func 53) [.val (.pointer (some ⟨g1, 0, none⟩)), .val (.pointer (some ⟨g2, 0, none⟩))] ∧ h' = .box g2 [.val (.int .i64 (4))] 3 :: .box g1 [.ro 1 (ints .i64 l)] 28 :: h) := by
  refine ACalls.intro Try.func34 rfl Try.ntmps34 Try.results34 (Nat.le_of_ble_eq_true rfl) ?_
  (repeat' (first | (refine iS ?_; refine iMu ?_; refine S.mapU ?_) | refine svz ⟨fun b hq => ?_⟩ | refine sv1 ?_ | refine svs ⟨?_⟩ | refine svu ⟨fun u => ?_⟩ | (refine svg (fun hg => ?_) (fun hg => ?_) <;> try (exfalso; first | omega | contradiction)) | (refine svc (fun hc => ?_) (fun hc => ?_) <;> try (exfalso; first | omega | contradiction)) | refine sv2 ?_ | refine svh (fun hb => ?_) (fun hb => ?_) | refine svb (fun b => ?_) | refine sva ?_ | refine sv3 ?_))
  rename_i b2
  exact fin_r (h' := _) ⟨b2, b, rfl, rfl⟩
def chF (l : List Int) : List (List Int) := (List.range (l.length / 4)).map fun i => (l.drop (4 * i)).take 4
theorem ch_len (l : List Int) : (chF l).length = l.length / 4 := by unfold chF; simp
theorem ch_at {l : List Int} {i : Nat} (h : i < l.length / 4) : (chF l)[i]? = some ((l.drop (4 * i)).take 4) := by unfold chF; simp [h]
set_option maxRecDepth 100000 in
theorem chunk_iter (l : List Int) (g1 g2 : Nat) (hl : l.length ≤ 1000000) (h4 : l.length % 4 = 0) : Iter Try.prog 53 [.val (.pointer (some ⟨g1, 0, none⟩)), .val (.pointer (some ⟨g2, 0, none⟩))] [.box g2 [.val (.int .i64 (4))] 3, .box g1 [.ro 1 (ints .i64 l)] 28] ((chF l).map fun q => [.ro 1 (ints .i64 q)]) := by
  intro lp R Z hy h h0
  refine ACalls.intro Try.func53 rfl Try.ntmps53 Try.results53 (Nat.le_of_ble_eq_true rfl) ?_
  show W none _ _ _ ⟨_, _, .box g2 [.val (.int .i64 (4))] 3 :: .box g1 [.ro 1 (ints .i64 l)] 28 :: h⟩
  (repeat' (first | (refine iS ?_; refine iMu ?_; refine S.mapU ?_) | refine svz ⟨fun b hq => ?_⟩ | refine sv1 ?_ | refine svs ⟨?_⟩ | refine svu ⟨fun u => ?_⟩ | (refine svg (fun hg => ?_) (fun hg => ?_) <;> try (exfalso; first | omega | contradiction)) | (refine svc (fun hc => ?_) (fun hc => ?_) <;> try (exfalso; first | omega | contradiction)) | refine sv2 ?_ | refine svh (fun hb => ?_) (fun hb => ?_) | refine svb (fun b => ?_) | refine sva ?_ | refine sv3 ?_))
  refine W.loop (J := fun q : Nat × Heap => ⟨31, [(4, .val (.int .i64 (((4 * q.1 : Nat) : Int)))), (0, .val (.func (.yield lp) #[] #[])), (1, .val (.pointer (some ⟨g1, 0, none⟩))), (2, .val (.pointer (some ⟨g2, 0, none⟩)))], .box g2 [.val (.int .i64 (4))] 3 :: .box g1 [.ro 1 (ints .i64 l)] 28 :: q.2⟩)
    (Φ := fun q => 4 * q.1 ≤ l.length ∧ R q.1 q.2) (μ := fun q => l.length - q.1) (0, h) lee ⟨Nat.zero_le _, h0⟩ ?_
  rintro ⟨i, hh⟩ ⟨hi, hR⟩
  dsimp only at hi hR ⊢
  rcases Nat.lt_or_ge (4 * i) l.length with hlt | hge
  · have hat := ch_at (l := l) (i := i) (by omega)
    (repeat' (first | (refine iS ?_; refine iMu ?_; refine S.mapU ?_) | refine svz ⟨fun b hq => ?_⟩ | refine sv1 ?_ | refine svs ⟨?_⟩ | refine svu ⟨fun u => ?_⟩ | (refine svg (fun hg => ?_) (fun hg => ?_) <;> try (exfalso; first | omega | contradiction)) | (refine svc (fun hc => ?_) (fun hc => ?_) <;> try (exfalso; first | omega | contradiction)) | refine sv2 ?_ | refine svh (fun hb => ?_) (fun hb => ?_) | refine svb (fun b => ?_) | refine sva ?_ | refine sv3 ?_))
    rw [show ((4 * i : Nat) : Int) + min 4 ((min (l.length - 4 * i) (l.length - 4 * i) : Nat) : Int) = ((4 * i + 4 : Nat) : Int) by omega]
    have e1 : ((ints .i64 l).drop (4 * i)).take (4 * i + 4 - 4 * i) = ints .i64 ((l.drop (4 * i)).take 4) := by
      rw [show 4 * i + 4 - 4 * i = 4 by omega]; simp [ints]
    refine step_v (e1 ▸ pur_slice3x_ro (lo := 4 * i) (hi := 4 * i + 4) rfl rfl rfl rfl (by omega) (by rw [len_ints]; omega)) rfl ?_
    clear e1
    (repeat' ((fail_if_success (refine iYd ?_)); (first | (refine iS ?_; refine iMu ?_; refine S.mapU ?_) | refine svz ⟨fun b hq => ?_⟩ | refine sv1 ?_ | refine svs ⟨?_⟩ | refine svu ⟨fun u => ?_⟩ | (refine svg (fun hg => ?_) (fun hg => ?_) <;> try (exfalso; first | omega | contradiction)) | (refine svc (fun hc => ?_) (fun hc => ?_) <;> try (exfalso; first | omega | contradiction)) | refine sv2 ?_ | refine svh (fun hb => ?_) (fun hb => ?_) | refine svb (fun b => ?_) | refine sva ?_ | refine sv3 ?_)))
    refine RL.yield ((hy i _ hh hR (by rw [List.getElem?_map, hat]; rfl)).keep2.mono ?_)
    rintro bb h' ⟨h1, (⟨rfl, hR'⟩ | ⟨rfl, hZ⟩), rfl⟩
    · (repeat' (first | (refine iS ?_; refine iMu ?_; refine S.mapU ?_) | refine svz ⟨fun b hq => ?_⟩ | refine sv1 ?_ | refine svs ⟨?_⟩ | refine svu ⟨fun u => ?_⟩ | (refine svg (fun hg => ?_) (fun hg => ?_) <;> try (exfalso; first | omega | contradiction)) | (refine svc (fun hc => ?_) (fun hc => ?_) <;> try (exfalso; first | omega | contradiction)) | refine sv2 ?_ | refine svh (fun hb => ?_) (fun hb => ?_) | refine svb (fun b => ?_) | refine sva ?_ | refine sv3 ?_))
      exact ⟨(i + 1, h1), ⟨by dsimp only; omega, hR'⟩, by dsimp only; rw [show ((4 * (i + 1) : Nat) : Int) = ((4 * i : Nat) : Int) + 4 by omega]; exact lee, by dsimp only; omega⟩
    · (repeat' (first | (refine iS ?_; refine iMu ?_; refine S.mapU ?_) | refine svz ⟨fun b hq => ?_⟩ | refine sv1 ?_ | refine svs ⟨?_⟩ | refine svu ⟨fun u => ?_⟩ | (refine svg (fun hg => ?_) (fun hg => ?_) <;> try (exfalso; first | omega | contradiction)) | (refine svc (fun hc => ?_) (fun hc => ?_) <;> try (exfalso; first | omega | contradiction)) | refine sv2 ?_ | refine svh (fun hb => ?_) (fun hb => ?_) | refine svb (fun b => ?_) | refine sva ?_ | refine sv3 ?_))
      exact fin_r (h' := .box g2 [.val (.int .i64 (4))] 3 :: .box g1 [.ro 1 (ints .i64 l)] 28 :: h1) ⟨h1, rfl, .inr hZ⟩
  · have e : i = l.length / 4 := by omega
    subst e
    (repeat' (first | (refine iS ?_; refine iMu ?_; refine S.mapU ?_) | refine svz ⟨fun b hq => ?_⟩ | refine sv1 ?_ | refine svs ⟨?_⟩ | refine svu ⟨fun u => ?_⟩ | (refine svg (fun hg => ?_) (fun hg => ?_) <;> try (exfalso; first | omega | contradiction)) | (refine svc (fun hc => ?_) (fun hc => ?_) <;> try (exfalso; first | omega | contradiction)) | refine sv2 ?_ | refine svh (fun hb => ?_) (fun hb => ?_) | refine svb (fun b => ?_) | refine sva ?_ | refine sv3 ?_))
    exact fin_n (h' := .box g2 [.val (.int .i64 (4))] 3 :: .box g1 [.ro 1 (ints .i64 l)] 28 :: hh) ⟨hh, rfl, .inl (by rw [List.length_map, ch_len]; exact hR)⟩
end Go.Proofs.Ytmfbfbhkjclhkaa
