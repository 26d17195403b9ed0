/- maps.Clone out of the kit's contract; an entry of a map's literal. No condition. -/
import Derived.Test.YtkpbbiknhhmfiaaVM35
import Derived.Shelf.SlMaps.Clone
namespace Go.VM
open Go Go.Shelf
set_option linter.unusedVariables false
set_option linter.unusedSimpArgs false
set_option linter.unusedSectionVars false
theorem mclone_c {P : Program} {ρ : Ren} (L : Go.Proofs.SlLaysW.n5 P ρ) {ks : List Value} {l : List AV} (hne : ks ≠ []) (h : Heap) :
    ACalls P (ρ.f 5) [.mro ks l] h (fun r h' => ∃ b, r = .val (.map (some b)) ∧ h' = .mp b ks l :: h) := by
  intro m w vs hm hv hh
  simp only [RelL, Rel] at hv
  obtain ⟨c, r, rfl, ⟨q, rfl, hq⟩, rfl⟩ := hv
  rcases hq with ⟨_, h1, _⟩ | ⟨g, es, clk, es', rfl, h1, h2, h3, h4⟩
  · exact absurd h1 hne
  refine (Go.Proofs.AnyW.maps_Clone L g es clk w (hm g _ h1)).mono ?_
  rintro e w' ⟨rfl, rfl⟩
  have hx : OERel m (w.alloc (.map es clk)) (.mp w.heap.size ks l) := by
    simp only [OERel]
    exact ⟨es, clk, es', heap_new _ _, h2, h3, h4⟩
  refine ⟨m, _, _, _, rfl, fun b o h => h, fun b o hb => by rw [heap_old w _ b (hm.lt hb)]; exact hm b o hb, Same.alloc w _, rel_val rfl, HRel.cons hh hm (fun b hb => heap_old w _ b hb) hx (fun b hb => by injection hb with hb; omega), ⟨fun b o hb => .inl hb, fun b hb _ => heap_old w _ b hb, fun x hx b hb => ?_⟩, _, rfl, rfl⟩
  rcases List.mem_cons.1 hx with rfl | hx
  · injection hb with hb; exact .inr (by omega)
  · exact .inl ⟨x, hx, hb⟩
section
variable {n : Nat} {T : List (Nat × AV)} {h : Heap} {P : Program} {d : Option Nat} {ty : Nat} {pos : String} {af : Array Edge} {gd : Option (Nat × Bool)} {x y z : Operand} {mt kt et : Nat} {kd : IntKind} {α : Type} {f : α → AV} {m : List (Int × α)} {i : Int} {v : AV} {K : St → Prop}
theorem S.ins {b : Nat} {a : α} {v' : AV} {h' : Heap} [hm : TMap P mt kt et kd] (hK : K ⟨n, T, h'⟩) (hx : evalA T x = some (.val (.map (some b))) := by rfl) (hu : Up h (mpV b kd f m) (mpV b kd f (putF m i a)) h' := by (repeat (first | exact Up.here | assumption | apply Up.there))) (hy : evalA T y = some (.val (.int kd i)) := by rfl) (hz : evalA T z = some v' := by rfl) (hv : Wk v' (f a) := by exact Wk.refl _) :
    Step P ⟨none, .insert mt x y z, ty, pos, af, gd⟩ ⟨n, T, h⟩ K :=
  show Step P ⟨none, .mapUpdate mt x y z, ty, pos, af, gd⟩ ⟨n, T, h⟩ K from S.mapU hK hx hu hy hz hv
end
end Go.VM
