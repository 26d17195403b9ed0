import Derived.Test.YtlnpelohdamklaaProp2
import Derived.Outline
namespace Go.Proofs.Ytlnpelohdamklaa
open Go.RowKit
set_option linter.unusedVariables false
set_option linter.unusedSimpArgs false

theorem sty_ints : STy Try.prog 27 2 1 8 (.int .i64 0) := ⟨Try.underlying27, by kernel_rfl, rfl, by decide⟩
theorem sty_props : STy Try.prog 24 36 4 40 (.agg #[.int .u32 0, .int .u32 0, .int .i64 0, .slice none 0 0]) := ⟨Try.underlying24, by kernel_rfl, rfl, by decide⟩

set_option maxHeartbeats 400000 in
theorem at_any {F : Foot} (v : Value) (ps : List PR) (n : Int) (w : World) (hv : Props F w v ps) :
    Calls Try.prog 23 #[.agg #[v], .int .u32 n] w fun e w' => e = .returned (.int .i64 (atF ps n)) ∧ Below w.heap.size w w' := by
  go_enter Try.func23, Try.ntmps23
  go_wp2_with fail
  refine (idx_any v ps n _ _ (hv.below (((Below.refl _ _).alloc (Nat.le_refl _) _).alloc (by simp) _) (Nat.le_refl _)) ?_ ?_).mono ?_
  · simp
  · simp [go_sem]
  rintro e w1 ⟨rfl, hb⟩
  go_wp2
  go_ret
  exact ⟨rfl, (((Below.refl _ _).alloc (Nat.le_refl _) _).alloc (by simp) _).trans (hb.mono (by simp; omega))⟩

theorem join_splice (xs ys : List Int) :
    splice (splice (madeCells (Value.int .i64 0).cells ((xs.length + ys.length) * 1)).toList 0 (xs.map (Value.int .i64))) xs.length (ys.map (Value.int .i64)) = (xs ++ ys).map (Value.int .i64) := by
  have h := splice_splice_splice (madeCells (Value.int .i64 0).cells ((xs.length + ys.length) * 1)).toList (xs.map (Value.int .i64)) (ys.map (Value.int .i64)) [] xs.length ys.length (by simp) (by simp) (by simp [size_madeCells])
  simp only [List.append_nil] at h
  rw [← List.map_append] at h
  rw [← h]
  simp [splice]
set_option maxRecDepth 100000 in
set_option maxHeartbeats 400000 in
theorem join_any {F G : Foot} (a b : Value) (xs ys : List Int) (w : World) (ha : Ints F w .i64 a xs) (hb : Ints G w .i64 b ys) (hl : xs.length + ys.length ≤ 1000000) :
    Calls Try.prog 24 #[a, b] w fun e w' => ∃ v, e = .returned v ∧ Below w.heap.size w w' ∧ w'.ownsRow w.heap.size 2 1 v (xs.length + ys.length) ((xs ++ ys).map (.int .i64)) := by
  obtain ⟨A, c, rfl, h1, h2, h3, h4⟩ := ha.open_
  obtain ⟨B, d, rfl, g1, g2, g3, g4⟩ := hb.open_
  have HA := Lib.hid ha
  have HB := Lib.hid hb
  clear ha hb h4 g4 h3 g3
  have HZ := Lib.hid (join_splice xs ys)
  by_cases hy : ys = []
  · subst hy
    go_enter Try.func24, Try.ntmps24
    go_wp2_with (first
      | (at_make; refine wpL_make rfl (.tmp 11) (.tmp 11) _ rfl sty_ints _ xs.length rfl rfl (by simp) (by simp at hl; omega) (by simp at hl; unfold maxLen; omega) ?_; intro w1 hown1 hb1)
      | (refine wpL_copy (w := w1) rfl (.tmp 13) (.tmp 14) _ _ rfl sty_ints _ _ _ rfl (.slice A xs.length c) xs.length _ rfl (HA.out.below hb1 (Nat.le_refl _)) (by omega) w.heap.size 0 _ _ (own_heap hown1) (fun _ => rfl) (by simp [size_madeCells]) (oneCell_ints _ _) ?_; intro w2 hc2 hb2)
      | (refine wpL_copy (w := w2) rfl (.tmp 18) (.tmp 19) _ _ rfl sty_ints _ _ _ rfl (.slice B 0 d) 0 _ rfl (HB.out.below (hb1.trans hb2) (Nat.le_refl _)) (by omega) w.heap.size xs.length _ _ hc2.out (fun h => absurd h (by omega)) (by rw [length_splice] <;> simp [size_madeCells]) (oneCell_ints _ _) ?_; intro w3 hc3 hb3))
    go_ret
    have e1 := HZ.out
    simp only [List.length_nil, Nat.add_zero] at e1
    refine ⟨_, rfl, (hb1.trans hb2).trans hb3, own_of_heap (base := w.heap.size) (n := xs.length) (by rw [← e1]; exact hc3.out) (by simp) (Nat.le_refl _) (by simp at hl; unfold maxLen; omega)⟩
  · go_enter Try.func24, Try.ntmps24
    go_wp2_with (first
      | (at_make; refine wpL_make rfl (.tmp 11) (.tmp 11) _ rfl sty_ints _ (xs.length + ys.length) rfl rfl (by simp) (by omega) (by unfold maxLen; omega) ?_; intro w1 hown1 hb1)
      | (refine wpL_copy (w := w1) rfl (.tmp 13) (.tmp 14) _ _ rfl sty_ints _ _ _ rfl (.slice A xs.length c) xs.length _ rfl (HA.out.below hb1 (Nat.le_refl _)) (by omega) w.heap.size 0 _ _ (own_heap hown1) (fun _ => rfl) (by simp [size_madeCells]) (oneCell_ints _ _) ?_; intro w2 hc2 hb2)
      | (refine wpL_copy (w := w2) rfl (.tmp 18) (.tmp 19) _ _ rfl sty_ints _ _ _ rfl (.slice B ys.length d) ys.length _ rfl (HB.out.below (hb1.trans hb2) (Nat.le_refl _)) (by omega) w.heap.size xs.length _ _ hc2.out (fun h => rfl) (by rw [length_splice] <;> simp [size_madeCells]) (oneCell_ints _ _) ?_; intro w3 hc3 hb3))
    go_ret
    exact ⟨_, rfl, (hb1.trans hb2).trans hb3, own_of_heap (by rw [← HZ.out]; exact hc3.out) (by simp) (Nat.le_refl _) (by unfold maxLen; omega)⟩

end Go.Proofs.Ytlnpelohdamklaa
