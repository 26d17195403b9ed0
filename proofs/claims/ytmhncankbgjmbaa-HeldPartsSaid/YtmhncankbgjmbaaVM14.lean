/- Joins behind a piece of code. No condition. -/
import Derived.Test.YtmhncankbgjmbaaVM13
namespace Go.VM
open Go
theorem W.midT {P : Program} {X : Type} {a b : Code} {Q : Exit → St → Prop} {s : St} (J : X → St) (Φ : X → Prop) (h1 : W P a (Then (fun s' => ∃ x, Φ x ∧ Le s' (J x)) Q) s) (h2 : ∀ x, Φ x → W P b Q (J x)) : W P a (Then (W P b Q) Q) s := by
  intro m0 w0 a' w hs
  refine wp_mono (h1 m0 w0 a' w hs) fun e a2 w2 ⟨s', q1, q2⟩ => ⟨s', ?_, q2⟩
  cases e with
  | normal =>
    obtain ⟨x, hx, hle⟩ := q1
    exact W.le hle (h2 x hx)
  | _ => exact q1
theorem W.midB {P : Program} {X : Type} {a b : Code} {Q Q' : Exit → St → Prop} {s : St} (J : X → St) (Φ : X → Prop) (hQ : Q .normal = W P b Q') (h1 : W P a (Then (fun s' => ∃ x, Φ x ∧ Le s' (J x)) Q) s) (h2 : ∀ x, Φ x → W P b Q' (J x)) : W P a Q s := by
  intro m0 w0 a' w hs
  refine wp_mono (h1 m0 w0 a' w hs) fun e a2 w2 ⟨s', q1, q2⟩ => ⟨s', ?_, q2⟩
  cases e with
  | normal =>
    obtain ⟨x, hx, hle⟩ := q1
    rw [hQ]
    exact W.le hle (h2 x hx)
  | _ => exact q1
theorem inT {K : St → Prop} {Q : Exit → St → Prop} : Then K Q .normal = K := rfl
theorem inBT {id : Nat} {K : St → Prop} {Q : Exit → St → Prop} : InBlock id (Then K Q) .normal = K := rfl
theorem inBBT {id id' : Nat} {K : St → Prop} {Q : Exit → St → Prop} : InBlock id (InBlock id' (Then K Q)) .normal = K := rfl
section
variable {P : Program} {K : St → Prop} {h : Heap} {n : Nat} {t : List (Nat × AV)} {x y : Operand} {d xt ty : Nat} {pos : String} {af : Array Edge} {gd : Option (Nat × Bool)}
theorem pur_istr {s : ByteArray} {k : IntKind} {i : Int} {c : UInt8} {d : Option Nat} [h1 : TStr P xt] (hx : evalA t x = some (.val (.string s))) (hy : evalA t y = some (.val (.int k i))) (h0 : 0 ≤ i) (hc : s[i.toNat]? = some c) : PurV P ⟨d, .index xt x y, ty, pos, af, gd⟩ t h (.val (.int .u8 (c.toNat : Nat))) :=
  pur_val fun m ac ht w => by
    simp [execOp, eval_val ht hx, eval_val ht hy, Instr.index, asIntOf, run_underlying h1.h, h0, hc]
/-- A byte of a text that is written out: a table. -/
theorem S.istr {s : ByteArray} {k : IntKind} {i : Int} (N : Nat) (f : Nat → Nat) [h1 : TStr P xt] (hK : K ⟨n, (d, .val (.int .u8 (f i.toNat : Nat))) :: t, h⟩) (h0 : 0 ≤ i ∧ i.toNat < N) (hx : evalA t x = some (.val (.string s)) := by rfl) (hy : evalA t y = some (.val (.int k i)) := by rfl)
    (hf : (List.range N).all (fun j => (s[j]?).map (·.toNat) == some (f j)) = true := by decide +kernel) (hn : Nat.blt d n = true := by rfl) : Step P ⟨some d, .index xt x y, ty, pos, af, gd⟩ ⟨n, t, h⟩ K := by
  have hj := List.all_eq_true.1 hf i.toNat (List.mem_range.2 h0.2)
  rw [beq_iff_eq, Option.map_eq_some_iff] at hj
  obtain ⟨c, hc, e⟩ := hj
  have hp := pur_istr (P := P) (xt := xt) (ty := ty) (pos := pos) (af := af) (gd := gd) (h := h) (d := some d) hx hy h0.1 hc
  rw [e] at hp
  exact step_v (s := ⟨n, t, h⟩) hp hn hK
end
end Go.VM
