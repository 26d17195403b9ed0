import Derived.Test.YtlnpelohdamklaaProp3
import Derived.Outline
namespace Go.Proofs.Ytlnpelohdamklaa
open Go.RowKit
set_option linter.unusedVariables false
set_option linter.unusedSimpArgs false

set_option maxRecDepth 100000 in
set_option maxHeartbeats 400000 in
theorem clone_any {F : Foot} (v : Value) (ps : List PR) (w0 w : World) (hv : Props F w0 v ps) (hb0 : Below w0.heap.size w0 w) (hl : ps.length ≤ 1000000) :
    Calls Try.prog 25 #[v] w fun e w' => ∃ v', e = .returned v' ∧ Below w.heap.size w w' ∧ OwnOf PR.row F w0 w' 36 4 v' ps ∧ ∀ k, v'.ownBlock = some k → w.heap.size ≤ k := by
  obtain ⟨xs, hsl, h1, hback⟩ := SlOf.cells PR.one hv
  have hsl' := hsl
  obtain ⟨A, c, rfl, k1, k2, k3, k4, k5⟩ := hsl
  clear k5
  rcases A with _ | ad
  · obtain rfl := k4 rfl
    have hz : ps.length = 0 := by omega
    obtain rfl : ps = [] := List.eq_nil_of_length_eq_zero hz
    clear hback hsl' hv
    have hne := fun (W : World) => Lib.run_eql_slice_nil (P := Try.prog) W 24 36 none 0 0 0 0 Try.underlying24
    go_enter Try.func25, Try.ntmps25
    go_wp2
    go_ret
    exact ⟨_, rfl, Below.refl _ _, OwnOf.nil_ _ _, fun k hk => by simp [Value.ownBlock] at hk⟩
  · have hne := fun (W : World) => Lib.run_eql_slice_nil (P := Try.prog) W 24 36 (some ad) ps.length c 0 0 Try.underlying24
    have HS := Lib.hid (hsl'.below hb0 (Nat.le_refl _))
    have HM := Lib.hid h1
    have HB := Lib.hid hback
    have HE := Lib.hid hb0
    clear hsl' h1 hback hv k4 hb0
    go_enter Try.func25, Try.ntmps25
    go_wp2_with (at_builtin; go_loud (refine wpL_append (w := w.alloc (.cells #[] 36)) rfl (.tmp 5) (.tmp 6) _ rfl sty_props w.heap.size (.slice (some ⟨w.heap.size, 0, none⟩) 0 0) 0 [] rfl (World.ownsRow_lit w #[] 0 (Nat.le_refl _) (by unfold maxLen; omega) rfl) (.slice (some ad) ps.length c) ps.length _ rfl (HS.out.below ((Below.refl _ _).alloc (Nat.le_refl _) _) (Nat.le_refl _)) HM.out (by unfold maxLen; omega) (by omega) (by simp) ?_); intro v' w1 hown1 hg1 hat1)
    go_ret
    have hb1 : Below w.heap.size w w1 := ((Below.refl _ _).alloc (Nat.le_refl _) _).grown hg1 (by simp) (fun k hk => Nat.le_of_eq (by simpa [Value.ownBlock] using hk))
    rw [Nat.zero_add, List.nil_append] at hown1
    exact ⟨_, rfl, hb1, HB.out _ _ _ (own_base hown1 HE.out.size), fun k hk => (hown1.lt k hk).1⟩
end Go.Proofs.Ytlnpelohdamklaa
