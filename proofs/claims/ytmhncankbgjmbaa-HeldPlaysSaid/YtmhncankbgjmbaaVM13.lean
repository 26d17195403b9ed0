/- More operations: equality of truth values. No condition. -/
import Derived.Test.YtmhncankbgjmbaaVM12
namespace Go.VM
open Go
set_option linter.unusedVariables false
set_option linter.unusedSimpArgs false
class TBool (P : Program) (t : Nat) : Prop where
  h : P.underlying t = some .bool
theorem equal_bool {P : Program} {t : Nat} (h : P.underlying t = some .bool) (a b : Bool) (w : World) : (Op.equal t (.bool a) (.bool b)).run P w = .ok (a == b) w := by
  unfold Op.equal Op.maxDepth
  rw [Op.equalIn]
  simp [run_underlying h]
section
variable {P : Program} {h : Heap} {tm : List (Nat × AV)} {d : Option Nat} {x y : Operand} {xt yt ty : Nat} {pos : String} {af : Array Edge} {gd : Option (Nat × Bool)}
theorem pur_eqlb {a b : Bool} [h1 : TBool P xt] (hx : evalA tm x = some (.val (.bool a))) (hy : evalA tm y = some (.val (.bool b))) : PurV P ⟨d, .binOp .eql xt x y yt, ty, pos, af, gd⟩ tm h (.val (.bool (decide (a = b)))) :=
  pur_val fun m ac ht w => by
    have := equal_bool h1.h a b w
    simp [execOp, eval_val ht hx, eval_val ht hy, eqGuard, binOp, this]
    cases a <;> cases b <;> rfl
theorem pur_neqb {a b : Bool} [h1 : TBool P xt] (hx : evalA tm x = some (.val (.bool a))) (hy : evalA tm y = some (.val (.bool b))) : PurV P ⟨d, .binOp .neq xt x y yt, ty, pos, af, gd⟩ tm h (.val (.bool (decide (a ≠ b)))) :=
  pur_val fun m ac ht w => by
    have := equal_bool h1.h a b w
    simp [execOp, eval_val ht hx, eval_val ht hy, eqGuard, binOp, this]
    cases a <;> cases b <;> rfl
theorem pur_nilCheck {a : Addr} (hx : evalA tm x = some (.val (.pointer (some a)))) : PurV P ⟨d, .nilCheck x, ty, pos, af, gd⟩ tm h (.val (.pointer (some a))) :=
  pur_val fun m ac ht w => by simp [execOp, eval_val ht hx]
theorem jN {v : AV} (k : PurV P ⟨d, .nilCheck x, ty, pos, af, gd⟩ tm h v) : PurV P ⟨d, .nilCheck x, ty, pos, af, gd⟩ tm h v := k
end
section
variable {P : Program} {ops : Array Oper} {n : Nat} {t : List (Nat × AV)} {h : Heap} {K : St → Prop} {o : Oper} {d : Nat}
theorem S.V2 {v : AV} (k : K ⟨n, (d, v) :: t, h⟩) (hp : PurV P o t h v := by first | (apply jN; exact pur_nilCheck rfl) | (apply jB; first | (apply jB_eql; exact pur_eqlb rfl rfl) | (apply jB_neq; exact pur_neqb rfl rfl) | fail) | fail) (hd : o.dst = some d := by rfl) (hn : Nat.blt d n = true := by rfl) : Step P o ⟨n, t, h⟩ K := by
  refine step_v (s := ⟨n, t, h⟩) hp (by rw [hd]; exact hn) ?_
  rw [hd]; exact k
end
section
variable {P : Program} {ops : Array Oper} {K : St → Prop} {hro h : Heap} {n : Nat} {t t1 : List (Nat × AV)} {listed : Array Bool} {fuel : Nat} {oi : Oper}
/-- A load of what is not written here, by an address that this region made. -/
theorem D.W (i : Nat) {d d' ty : Nat} {u : Value} {v : AV} (k : D P ops K hro ((d, v) :: t1) (listed.setIfInBounds i true) fuel ⟨n, (d, v) :: t, h⟩) (hi : ops[i]? = some oi := by rfl) (ha : oi.op = .load ty (.tmp d') := by rfl) (hu : get t d' = some (.val u) := by rfl) (hr : (Region.ready .any ops listed).contains i = true := by decide +kernel) (hfr : Region.free .any ops listed i = true := by decide +kernel)
    (hsel : Region.noSelect ops = true := by decide +kernel) (hw : Wanted ops t oi true := by first | exact wanted_n rfl | exact wanted_p rfl rfl rfl (by first | rfl | (simp; done) | (simp; omega) | (simp [*]; done) | fail) | fail)
    (hp : Pur P oi [(d', .val u)] hro v := by first | exact pur_load_boxA rfl (by (fail_if_success (apply memG)); repeat (first | exact List.Mem.head _ | assumption | refine List.Mem.tail _ ?_)) rfl | exact pur_load_box rfl (by (fail_if_success (apply memG)); repeat (first | exact List.Mem.head _ | assumption | refine List.Mem.tail _ ?_)) rfl | exact pur_load_rpA rfl (by first | exact at_ints (by assumption) | exact at_intsN (by omega) | exact at_map (by assumption) | exact at_mapN (by omega) | rfl | assumption) rfl rfl | exact pur_load_rp rfl (by first | exact at_ints (by assumption) | exact at_intsN (by omega) | exact at_map (by assumption) | exact at_mapN (by omega) | rfl | assumption) rfl | exact pur_load_epA rfl (by (fail_if_success (apply memG)); repeat (first | exact List.Mem.head _ | assumption | refine List.Mem.tail _ ?_)) (by first | exact at_ints (by assumption) | exact at_intsN (by omega) | exact at_map (by assumption) | exact at_mapN (by omega) | rfl | assumption) rfl rfl | exact pur_load_ep rfl (by (fail_if_success (apply memG)); repeat (first | exact List.Mem.head _ | assumption | refine List.Mem.tail _ ?_)) (by first | exact at_ints (by assumption) | exact at_intsN (by omega) | exact at_map (by assumption) | exact at_mapN (by omega) | rfl | assumption) rfl) (hd : oi.dst = some d := by rfl) (hn : Nat.blt d n = true := by rfl) : D P ops K hro t1 listed (fuel + 1) ⟨n, t, h⟩ := by
  intro m0 w0 m1 wr m a w hs g1 g2 g3 g4 g5
  have hf : fits ⟨n, t, h⟩ oi.dst = true := by rw [hd]; exact hn
  have htv : TRel m1 [(d', .val u)] a.tmps := by
    intro j y hy
    simp only [get_eq] at hy
    split at hy
    · rename_i e
      subst e
      injection hy with hy
      subst hy
      obtain ⟨z, h1, h2⟩ := hs.tmps _ _ hu
      exact ⟨z, h1, by simpa only [Rel] using h2⟩
    · simp [get] at hy
  obtain ⟨z, hz, hrun⟩ := hp m1 a wr htv g2 g3
  refine wpAnyH_take hi hsel hfr hr (fun c a w h => by simp at h) (v := z) (.inl ⟨hw.spec hs.tmps, fun w' hw' => hrun w' hw'.1 hw'.2⟩) g5 ?_
  have hk := k m0 w0 m1 wr m (a.put oi.dst z) w
  have e : ({ ({ n := n, t := t, h := h } : St).put oi.dst v with h := hro ++ (({ n := n, t := t, h := h } : St).put oi.dst v).h } : St) = { n := n, t := (d, v) :: t, h := hro ++ h } := by rw [hd]; rfl
  exact hk (e ▸ D.put (s := ⟨n, t, h⟩) hs hf (hz.mono g1)) g1 g2 g3 (by have := tputs (v := v) g4 hs.size hf hz; rw [hd] at this ⊢; exact this) g5
end
end Go.VM
