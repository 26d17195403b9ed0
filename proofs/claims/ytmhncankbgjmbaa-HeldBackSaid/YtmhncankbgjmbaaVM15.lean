/- Equality of truth values that is decided where it stands. No condition. -/
import Derived.Test.YtmhncankbgjmbaaVM14
namespace Go.VM
open Go
set_option linter.unusedVariables false
set_option linter.unusedSimpArgs false
section
variable {P : Program} {h : Heap} {tm : List (Nat × AV)} {d : Option Nat} {x y : Operand} {xt yt ty : Nat} {pos : String} {af : Array Edge} {gd : Option (Nat × Bool)}
theorem pur_eqlb_t {a b : Bool} [h1 : TBool P xt] (hx : evalA tm x = some (.val (.bool a))) (hy : evalA tm y = some (.val (.bool b))) (e : a = b) : PurV P ⟨d, .binOp .eql xt x y yt, ty, pos, af, gd⟩ tm h (.val (.bool true)) := by
  have := pur_eqlb (P := P) (xt := xt) (yt := yt) (d := d) (ty := ty) (pos := pos) (af := af) (gd := gd) (h := h) hx hy
  rwa [decide_eq_true e] at this
theorem pur_eqlb_f {a b : Bool} [h1 : TBool P xt] (hx : evalA tm x = some (.val (.bool a))) (hy : evalA tm y = some (.val (.bool b))) (e : a ≠ b) : PurV P ⟨d, .binOp .eql xt x y yt, ty, pos, af, gd⟩ tm h (.val (.bool false)) := by
  have := pur_eqlb (P := P) (xt := xt) (yt := yt) (d := d) (ty := ty) (pos := pos) (af := af) (gd := gd) (h := h) hx hy
  rwa [decide_eq_false e] at this
theorem pur_neqb_f {a b : Bool} [h1 : TBool P xt] (hx : evalA tm x = some (.val (.bool a))) (hy : evalA tm y = some (.val (.bool b))) (e : a = b) : PurV P ⟨d, .binOp .neq xt x y yt, ty, pos, af, gd⟩ tm h (.val (.bool false)) := by
  have := pur_neqb (P := P) (xt := xt) (yt := yt) (d := d) (ty := ty) (pos := pos) (af := af) (gd := gd) (h := h) hx hy
  rwa [decide_eq_false (fun k => k e)] at this
theorem pur_neqb_t {a b : Bool} [h1 : TBool P xt] (hx : evalA tm x = some (.val (.bool a))) (hy : evalA tm y = some (.val (.bool b))) (e : a ≠ b) : PurV P ⟨d, .binOp .neq xt x y yt, ty, pos, af, gd⟩ tm h (.val (.bool true)) := by
  have := pur_neqb (P := P) (xt := xt) (yt := yt) (d := d) (ty := ty) (pos := pos) (af := af) (gd := gd) (h := h) hx hy
  rwa [decide_eq_true e] at this
theorem dec_ne {p q : Prop} {dp : Decidable p} {dq : Decidable q} (h : ¬ (p ↔ q)) : @decide p dp ≠ @decide q dq := fun e => h (decide_eq_decide.1 e)
theorem dec_eq {p q : Prop} {dp : Decidable p} {dq : Decidable q} (h : p ↔ q) : @decide p dp = @decide q dq := decide_eq_decide.2 h
end
section
variable {P : Program} {ops : Array Oper} {n : Nat} {t : List (Nat × AV)} {h : Heap} {K : St → Prop} {o : Oper} {d : Nat}
theorem S.V3 {v : AV} (k : K ⟨n, (d, v) :: t, h⟩) (hp : PurV P o t h v := by first | (apply jB; first | (apply jB_eql; first | exact pur_eqlb_t rfl rfl (by first | rfl | (exact dec_eq (by omega)) | fail) | exact pur_eqlb_f rfl rfl (by first | (exact dec_ne (by omega)) | fail) | fail) | (apply jB_neq; first | exact pur_neqb_f rfl rfl (by first | rfl | (exact dec_eq (by omega)) | fail) | exact pur_neqb_t rfl rfl (by first | (exact dec_ne (by omega)) | fail) | fail) | fail) | fail) (hd : o.dst = some d := by rfl) (hn : Nat.blt d n = true := by rfl) : Step P o ⟨n, t, h⟩ K := by
  refine step_v (s := ⟨n, t, h⟩) hp (by rw [hd]; exact hn) ?_
  rw [hd]; exact k
end
end Go.VM
