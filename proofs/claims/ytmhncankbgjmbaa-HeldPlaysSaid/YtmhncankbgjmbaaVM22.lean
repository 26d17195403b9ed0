/- A slice of one element, built and never changed. No condition. -/
import Derived.Test.YtmhncankbgjmbaaVM21
namespace Go.VM
open Go
set_option linter.unusedVariables false
section
variable {P : Program} {n : Nat} {t : List (Nat × AV)} {h : Heap} {K : St → Prop} {x : Operand} {d : Nat} {ty : Nat} {pos : String} {af : Array Edge} {gd : Option (Nat × Bool)}
theorem S.build1r {bt e k bs : Nat} {g : Bool} {v0 : AV} [he : TElem P bt e k bs g] (hK : K ⟨n, (d, .ro k [v0]) :: t, h⟩) (hx : evalA t x = some v0 := by rfl) (hk : v0.cells.length = k := by rfl) (h1 : Ones h v0.cells := by (repeat (first | exact Ones.nil | refine Ones.cons rfl ?_ | refine Ones.own (by (fail_if_success (apply memG)); repeat (first | exact List.Mem.head _ | assumption | refine List.Mem.tail _ ?_)) ?_))) (hbig : k ≤ 16777216 := by first | omega | (simp [AV.cells]; done)) (hn : Nat.blt d n = true := by rfl) : Step P ⟨some d, .buildSlice bt 1 #[(0, x)], ty, pos, af, gd⟩ ⟨n, t, h⟩ K := by
  have := S.build1 (P := P) (ty := ty) (pos := pos) (af := af) (gd := gd) (K := fun s' => ∃ v, s' = ⟨n, (d, .val v) :: t, .own v k [v0] e :: h⟩) (bt := bt) (fun v => ⟨v, rfl⟩) hx hk h1 hbig hn
  intro m0 w0 a w hs Q
  refine Oper.wp_mono (fun a' w' ⟨s', ⟨v, e⟩, hs'⟩ => ⟨_, hK, ?_⟩) (this m0 w0 a w hs Q)
  subst e
  exact hs'.frz .here (.cons .hit (.rest _)) (.rest _)
variable {ops : Array Oper} {hro : Heap} {todo : List Nat} {i : Nat}
theorem r2b {bt : Nat} (k : R2 P ops K n hro (i :: todo) t h) (hi : ops[i]? = some ⟨some d, .buildSlice bt 1 #[(0, x)], ty, pos, af, gd⟩ := by rfl) : R2 P ops K n hro (i :: todo) t h := k
theorem R2.one {bt e kk bs : Nat} {g : Bool} {v0 : AV} [he : TElem P bt e kk bs g] (k : R2 P ops K n hro todo ((d, .ro kk [v0]) :: t) h)
    (hi : ops[i]? = some ⟨some d, .buildSlice bt 1 #[(0, x)], ty, pos, af, gd⟩ := by rfl)
    (hx : evalA (restr (readsOf ops ⟨some d, .buildSlice bt 1 #[(0, x)], ty, pos, af, gd⟩) t) x = some v0 := by rfl) (hk : v0.cells.length = kk := by rfl)
    (h1 : Ones hro v0.cells := by (repeat (first | exact Ones.nil | refine Ones.cons rfl ?_ | refine Ones.own (by (fail_if_success (apply memG)); repeat (first | exact List.Mem.head _ | assumption | refine List.Mem.tail _ ?_)) ?_))) (hbig : kk ≤ 16777216 := by first | omega | (simp [AV.cells]; done))
    (hw : Wanted ops (restr (readsOf ops ⟨some d, .buildSlice bt 1 #[(0, x)], ty, pos, af, gd⟩) t) ⟨some d, .buildSlice bt 1 #[(0, x)], ty, pos, af, gd⟩ true := by first | exact wanted_n rfl | exact wanted_p rfl rfl rfl (by first | rfl | exact decide_eq_true (by assumption) | exact decide_eq_false (by assumption) | (simp; done) | (simp; omega) | fail) | fail)
    (hn : Nat.blt d n = true := by rfl) (hr : rdy ops (i :: todo) i = true := by decide +kernel) (hni : inL todo i = false := by rfl) : R2 P ops K n hro (i :: todo) t h :=
  R2.F (S.build1r (kf (LeH.refl _)) hx hk h1 hbig hn) k hi hw rfl hn hr hni
end
end Go.VM
