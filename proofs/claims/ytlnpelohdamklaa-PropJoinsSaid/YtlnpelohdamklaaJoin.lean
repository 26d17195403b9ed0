import Derived.Test.YtlnpelohdamklaaProp3
import Derived.Outline
namespace Go.Proofs.Ytlnpelohdamklaa
open Go.RowKit
set_option linter.unusedVariables false
set_option linter.unusedSimpArgs false

theorem eq_of_take {xs ys : List Int} (hl : xs.length = ys.length) (h : xs.take xs.length = ys.take xs.length) : xs = ys := by
  rw [List.take_length, hl, List.take_length] at h; exact h
theorem take_succ_eq {xs ys : List Int} {k : Nat} {x : Int} (hx : Hid (xs[k]? = some x)) (hy : Hid (ys[k]? = some x)) (h : xs.take k = ys.take k) : xs.take (k + 1) = ys.take (k + 1) := by
  rw [take_snoc hx, take_snoc hy, h]
theorem ne_at {xs ys : List Int} {k : Nat} {x y : Int} (hx : Hid (xs[k]? = some x)) (hy : Hid (ys[k]? = some y)) (h : x ≠ y) : xs ≠ ys := by
  rintro rfl
  have := hx.out; rw [hy.out] at this; injection this with this; exact h this.symm
set_option maxRecDepth 100000 in
set_option maxHeartbeats 400000 in
theorem same_any {F G : Foot} (w : World) (a b : Value) (xs ys : List Int) (ha : Ints F w .i64 a xs) (hb : Ints G w .i64 b ys) :
    Calls Try.prog 13 #[a, b] w fun e w' => e = .returned (.bool (decide (xs = ys))) ∧ ∃ n, w' = w.drewN n := by
  obtain ⟨A, c, rfl, h1, h2, h3, h4⟩ := ha.open_
  obtain ⟨B, d, rfl, g1, g2, g3, g4⟩ := hb.open_
  clear ha hb h3 g3
  by_cases hl : xs.length = ys.length
  · have e1 : ((xs.length : Int) != (ys.length : Int)) = false := by simp [hl]
    have HL := Lib.hid hl
    clear hl
    go_enter Try.func13, Try.ntmps13
    go_wp2
    go_loopw [5] (fun i wr => ∃ k : Nat, k ≤ xs.length ∧ i = .int .i64 k ∧ Hid (xs.take k = ys.take k) ∧ ∃ n, wr = w.drewN n) (fun i _ => xs.length - (intOf i).toNat)
    case atStart => exact ⟨0, by omega, rfl, (show _ = _ by simp), 0, rfl⟩
    case round =>
      obtain ⟨k, hk, rfl, HT, nd, rfl⟩ := hrel
      by_cases hlt : k < xs.length
      · have hlt' : k < ys.length := by have := HL.out; omega
        obtain ⟨bk, off, x, rfl, hb1, hc1, HX⟩ := h4 k hlt
        obtain ⟨bk2, off2, y, rfl, hb2, hc2, HY⟩ := g4 k hlt'
        clear h4 g4
        have hlt2 : (k : Int) < (ys.length : Int) := by omega
        by_cases hxy : x = y
        · subst hxy
          go_wp2
          go_quiet (fail)
          go_wp2
          go_roundw
          case rel => exact ⟨k + 1, by omega, by go_num, (show _ = _ from take_succ_eq HX HY HT.out), _, rfl⟩
          case measure => simp [intOf]; omega
        · have hq : (x != y) = true := by simpa using hxy
          have HN := Lib.hid (ne_at HX HY hxy)
          clear hxy
          go_wp2
          go_quiet (fail)
          go_wp2
          go_ret
          exact ⟨by rw [decide_eq_false HN.out]; rfl, _, by rw [World.drewN_drewN]⟩
      · obtain rfl : k = xs.length := by omega
        go_wp2
        go_ret
        exact ⟨by rw [decide_eq_true (eq_of_take HL.out HT.out)]; rfl, _, rfl⟩
  · have e1 : ((xs.length : Int) != (ys.length : Int)) = true := by simp; omega
    have HN : Hid (xs ≠ ys) := fun h => hl (by rw [h])
    clear hl
    go_enter Try.func13, Try.ntmps13
    go_wp2
    go_ret
    exact ⟨by rw [decide_eq_false HN.out]; rfl, 0, rfl⟩

set_option maxRecDepth 100000 in
set_option maxHeartbeats 800000 in
theorem rjoin_any {F G : Foot} (a b : Value) (xs ys : List Int) (w : World) (ha : Ints F w .i64 a xs) (hb : Ints G w .i64 b ys) (hl : xs.length + ys.length ≤ 1000000) :
    Calls Try.prog 11 #[a, b] w fun e w' => ∃ v, e = .returned v ∧ Below w.heap.size w w' ∧ w'.ownsRow w.heap.size 2 1 v (xs.length + ys.length) ((xs ++ ys).map (.int .i64)) := by
  obtain ⟨A, c, rfl, h1, h2, _, h4⟩ := ha.open_
  obtain ⟨B, d, rfl, g1, g2, _, g4⟩ := hb.open_
  clear ha hb
  go_enter Try.func11, Try.ntmps11
  go_wp2_with fail
  go_loopw [5, 6] (fun v i wr => ∃ k : Nat, k ≤ xs.length ∧ i = .int .i64 k ∧ wr.ownsRow w.heap.size 2 1 v k ((xs.take k).map (.int .i64)) ∧ Below w.heap.size w wr) (fun _ i _ => xs.length - (intOf i).toNat)
  case atStart => exact ⟨0, by omega, rfl, World.ownsRow_nil _ _ _ _, Below.refl _ _⟩
  case round =>
    obtain ⟨k, hk, rfl, hown, hbel⟩ := hrel
    by_cases hlt : k < xs.length
    · obtain ⟨bk, off, x, rfl, hb1, hc1, HX⟩ := h4 k hlt
      have hc1' := (hbel.cell (p := ⟨bk, off + k, none⟩) hb1).trans hc1
      clear h4 g4 hc1
      have HO := Lib.hid hown
      obtain ⟨V, vc, rfl, _⟩ := own_shape hown
      clear hown
      go_wp2_with (at_builtin; go_loud (refine wpL_append (w := wr.alloc (.cells #[.int .i64 x] 2)) rfl (.tmp 14) (.tmp 19) _ rfl sty_ints w.heap.size (.slice V k vc) k _ rfl (HO.out.alloc _) (.slice (some ⟨wr.heap.size, 0, none⟩) 1 1) 1 _ rfl (Sl.new_ wr #[.int .i64 x] 2 1 1 rfl (by unfold maxLen; omega)) (by simp [Value.oneCell']) (by unfold maxLen; omega) (by omega) (by have := hbel.size; simp; omega) ?_); intro v' w1 ho1 hg1 hat1)
      go_roundw
      case rel =>
        refine ⟨k + 1, by omega, by go_num, by rw [take_snoc HX]; simpa using ho1, (hbel.alloc hbel.size _).grown hg1 (by have := hbel.size; simp; omega) (fun j hj => (HO.out.lt j hj).1)⟩
      case measure => simp [intOf]; omega
    · obtain rfl : k = xs.length := by omega
      obtain ⟨wo, rfl⟩ : ∃ wo : World, wo = wr := ⟨_, rfl⟩
      have HO0 := Lib.hid hown
      obtain ⟨V0, vc0, rfl, _⟩ := own_shape hown
      clear hown h4
      go_wp2_with fail
      go_loopw [5, 7] (fun v i wr => ∃ k : Nat, k ≤ ys.length ∧ i = .int .i64 k ∧ wr.ownsRow w.heap.size 2 1 v (xs.length + k) ((xs ++ ys.take k).map (.int .i64)) ∧ Below w.heap.size w wr) (fun _ i _ => ys.length - (intOf i).toNat)
      case atStart => exact ⟨0, by omega, rfl, by simpa using HO0.out, hbel⟩
      case round =>
        obtain ⟨k, hk2, rfl, hown, hbel⟩ := hrel
        by_cases hlt : k < ys.length
        · obtain ⟨bk, off, x, rfl, hb1, hc1, HX⟩ := g4 k hlt
          have hc1' := (hbel.cell (p := ⟨bk, off + k, none⟩) hb1).trans hc1
          clear g4 hc1
          have HO := Lib.hid hown
          obtain ⟨V, vc, rfl, _⟩ := own_shape hown
          clear hown
          go_wp2_with (at_builtin; go_loud (refine wpL_append (w := wr.alloc (.cells #[.int .i64 x] 2)) rfl (.tmp 27) (.tmp 32) _ rfl sty_ints w.heap.size (.slice V (xs.length + k) vc) (xs.length + k) _ rfl (HO.out.alloc _) (.slice (some ⟨wr.heap.size, 0, none⟩) 1 1) 1 _ rfl (Sl.new_ wr #[.int .i64 x] 2 1 1 rfl (by unfold maxLen; omega)) (by simp [Value.oneCell']) (by unfold maxLen; omega) (by omega) (by have := hbel.size; simp; omega) ?_); intro v' w1 ho1 hg1 hat1)
          go_roundw
          case rel =>
            refine ⟨k + 1, by omega, by go_num, by rw [take_snoc HX]; simpa [Nat.add_assoc] using ho1, (hbel.alloc hbel.size _).grown hg1 (by have := hbel.size; simp; omega) (fun j hj => (HO.out.lt j hj).1)⟩
          case measure => simp [intOf]; omega
        · obtain rfl : k = ys.length := by omega
          have HO := Lib.hid hown
          obtain ⟨V, vc, rfl, _⟩ := own_shape hown
          clear hown
          go_wp2
          go_ret
          have ho := HO.out
          rw [List.take_length] at ho
          exact ⟨_, rfl, hbel, ho⟩
end Go.Proofs.Ytlnpelohdamklaa
