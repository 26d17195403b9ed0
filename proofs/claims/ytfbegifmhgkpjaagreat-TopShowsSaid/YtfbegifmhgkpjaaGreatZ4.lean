/- Grids: side, coord, Size, has, At, twin, Set, New. No condition. -/
import Derived.Test.YtfbegifmhgkpjaaGreatZ2
import Derived.Test.YtfbegifmhgkpjaaGreatVM29
import Derived.Test.YtfbegifmhgkpjaaGreatB9
namespace Go.Proofs.YtfbegifmhgkpjaaGreat
open Go Go.VM
attribute [local irreducible] PurV Pur Step RL W D ACalls Then InBlock Fini
set_option linter.unusedVariables false
set_option linter.unusedSimpArgs false
set_option maxHeartbeats 20000000
theorem set8 (M : List Int) (i : Nat) (p : Int) : (ints .u8 M).set i (.val (.int .u8 (p))) = ints .u8 (M.set i p) := (List.map_set ..).symm
def encG (g : GR) : AV := .agg [.val (.int .i64 ((g.w : Int))), .val (.int .i64 ((g.h : Int))), .ro 1 (ints .u8 g.pix)]
set_option maxRecDepth 100000 in
theorem gcoord_c (x : Int) (h : Heap) : ACalls Tryz.prog 105 [.val (.int .i64 (x))] h (fun r h' => r = .val (.bool (decide (-1048576 ≤ x ∧ x ≤ 1048576))) ∧ h' = h) := by
  refine ACalls.intro Tryz.func105 rfl Tryz.ntmps105 Tryz.results105 (Nat.le_of_ble_eq_true rfl) ?_
  by_cases h1 : -1048576 ≤ x
  · (repeat' (first|refine svz ⟨fun b hq=>?_⟩|refine svA ⟨?_⟩|refine svu ⟨fun u=>?_⟩|(refine svG (fun hg=>?_) (fun hg=>?_)<;>try exact svx)|refine svh (fun hb=>?_) (fun hb=>?_)|refine svb (fun b=>?_)|fail))
    refine fin_r (h' := h) ⟨?_, rfl⟩; simp [tupA, h1]
  · (repeat' (first|refine svz ⟨fun b hq=>?_⟩|refine svA ⟨?_⟩|refine svu ⟨fun u=>?_⟩|(refine svG (fun hg=>?_) (fun hg=>?_)<;>try exact svx)|refine svh (fun hb=>?_) (fun hb=>?_)|refine svb (fun b=>?_)|fail))
    refine fin_r (h' := h) ⟨?_, rfl⟩; simp [tupA, h1]
set_option maxRecDepth 100000 in
theorem gside_c (x : Int) (h : Heap) : ACalls Tryz.prog 104 [.val (.int .i64 (x))] h (fun r h' => r = .val (.bool (decide (1 ≤ x ∧ x ≤ 128))) ∧ h' = h) := by
  refine ACalls.intro Tryz.func104 rfl Tryz.ntmps104 Tryz.results104 (Nat.le_of_ble_eq_true rfl) ?_
  by_cases h1 : 1 ≤ x
  · (repeat' (first|refine svz ⟨fun b hq=>?_⟩|refine svA ⟨?_⟩|refine svu ⟨fun u=>?_⟩|(refine svG (fun hg=>?_) (fun hg=>?_)<;>try exact svx)|refine svh (fun hb=>?_) (fun hb=>?_)|refine svb (fun b=>?_)|fail))
    refine fin_r (h' := h) ⟨?_, rfl⟩; simp [tupA, h1]
  · (repeat' (first|refine svz ⟨fun b hq=>?_⟩|refine svA ⟨?_⟩|refine svu ⟨fun u=>?_⟩|(refine svG (fun hg=>?_) (fun hg=>?_)<;>try exact svx)|refine svh (fun hb=>?_) (fun hb=>?_)|refine svb (fun b=>?_)|fail))
    refine fin_r (h' := h) ⟨?_, rfl⟩; simp [tupA, h1]
set_option maxRecDepth 100000 in
theorem gsize_c (g : GR) (h : Heap) : ACalls Tryz.prog 58 [encG g] h (fun r h' => r = .tup [.val (.int .i64 ((g.w : Int))), .val (.int .i64 ((g.h : Int)))] ∧ h' = h) := by
  unfold encG
  refine ACalls.intro Tryz.func58 rfl Tryz.ntmps58 Tryz.results58 (Nat.le_of_ble_eq_true rfl) ?_
  (repeat' (first|refine svz ⟨fun b hq=>?_⟩|refine svA ⟨?_⟩|refine svu ⟨fun u=>?_⟩|(refine svG (fun hg=>?_) (fun hg=>?_)<;>try exact svx)|refine svh (fun hb=>?_) (fun hb=>?_)|refine svb (fun b=>?_)|fail))
  exact fin_r (h' := h) ⟨rfl, rfl⟩
set_option maxRecDepth 100000 in
theorem ghas_c (g : GR) (x y : Int) (h : Heap) : ACalls Tryz.prog 64 [encG g, .val (.int .i64 (x)), .val (.int .i64 (y))] h (fun r h' => r = .val (.bool (decide (g.has x y))) ∧ h' = h) := by
  have e : decide (g.has x y) = decide ((0 ≤ x ∧ x < (g.w : Int)) ∧ 0 ≤ y ∧ y < (g.h : Int)) := rfl
  rw [e]
  clear e
  unfold encG
  refine ACalls.intro Tryz.func64 rfl Tryz.ntmps64 Tryz.results64 (Nat.le_of_ble_eq_true rfl) ?_
  by_cases h1 : 0 ≤ x
  · by_cases h2 : x < (g.w : Int)
    · by_cases h3 : 0 ≤ y
      · (repeat' (first|refine svz ⟨fun b hq=>?_⟩|refine svA ⟨?_⟩|refine svu ⟨fun u=>?_⟩|(refine svG (fun hg=>?_) (fun hg=>?_)<;>try exact svx)|refine svh (fun hb=>?_) (fun hb=>?_)|refine svb (fun b=>?_)|fail))
        refine fin_r (h' := h) ⟨?_, rfl⟩; simp [tupA, h1, h2, h3]
      · (repeat' (first|refine svz ⟨fun b hq=>?_⟩|refine svA ⟨?_⟩|refine svu ⟨fun u=>?_⟩|(refine svG (fun hg=>?_) (fun hg=>?_)<;>try exact svx)|refine svh (fun hb=>?_) (fun hb=>?_)|refine svb (fun b=>?_)|fail))
        refine fin_r (h' := h) ⟨?_, rfl⟩; simp [tupA, h1, h2, h3]
    · (repeat' (first|refine svz ⟨fun b hq=>?_⟩|refine svA ⟨?_⟩|refine svu ⟨fun u=>?_⟩|(refine svG (fun hg=>?_) (fun hg=>?_)<;>try exact svx)|refine svh (fun hb=>?_) (fun hb=>?_)|refine svb (fun b=>?_)|fail))
      refine fin_r (h' := h) ⟨?_, rfl⟩; simp [tupA, h1, h2]
  · (repeat' (first|refine svz ⟨fun b hq=>?_⟩|refine svA ⟨?_⟩|refine svu ⟨fun u=>?_⟩|(refine svG (fun hg=>?_) (fun hg=>?_)<;>try exact svx)|refine svh (fun hb=>?_) (fun hb=>?_)|refine svb (fun b=>?_)|fail))
    refine fin_r (h' := h) ⟨?_, rfl⟩; simp [tupA, h1]
theorem has_nat {g : GR} (k : g.Ok) {x y : Int} (h : g.has x y) : ∃ a b : Nat, x = a ∧ y = b ∧ b * g.w + a < g.w * g.h ∧ g.w * g.h ≤ 16384 ∧ g.pix.length = g.w * g.h ∧ (0 ≤ (b : Int) * (g.w : Int) ∧ (b : Int) * (g.w : Int) ≤ 16384) ∧ (b : Int) * (g.w : Int) + (a : Int) = ((b * g.w + a : Nat) : Int) := by
  obtain ⟨⟨h1, h2⟩, h3, h4⟩ := id h
  obtain ⟨a, rfl⟩ := Int.eq_ofNat_of_zero_le h1
  obtain ⟨b, rfl⟩ := Int.eq_ofNat_of_zero_le h3
  have hlt := idx_lt (w := g.w) (h := g.h) (x := a) (y := b) (by omega) (by omega)
  have hm : g.w * g.h ≤ 128 * 128 := Nat.mul_le_mul k.w.2 k.h.2
  have e : (b : Int) * (g.w : Int) = ((b * g.w : Nat) : Int) := by push_cast; rfl
  refine ⟨a, b, rfl, rfl, hlt, by omega, k.len, ?_, by push_cast; rfl⟩
  rw [e]; omega
theorem GR.at_nat {g : GR} {a b : Nat} (h : g.has a b) : g.at' a b = g.pix.getD (b * g.w + a) 0 := by
  unfold GR.at'
  rw [if_pos h]
  congr 1
set_option maxRecDepth 100000 in
theorem gat_c (g : GR) (x y : Int) (h : Heap) (k : g.Ok) : ACalls Tryz.prog 20 [encG g, .val (.int .i64 (x)), .val (.int .i64 (y))] h (fun r h' => r = .val (.int .u8 (g.at' x y)) ∧ h' = h) := by
  have c1 := ghas_c g x y
  by_cases hh : g.has x y
  · rw [decide_eq_true hh] at c1
    obtain ⟨i, j, rfl, rfl, h1, h2, h3, h4, h5⟩ := has_nat k hh
    rw [GR.at_nat hh]
    obtain ⟨p, hp⟩ : ∃ p, g.pix[j * g.w + i]? = some p := ⟨_, List.getElem?_eq_getElem (by omega)⟩
    rw [List.getD_eq_getElem?_getD, hp, Option.getD_some]
    unfold encG at *
    refine ACalls.intro Tryz.func20 rfl Tryz.ntmps20 Tryz.results20 (Nat.le_of_ble_eq_true rfl) ?_
    (repeat' (first|refine svz ⟨fun b hq=>?_⟩|refine svA ⟨?_⟩|refine svu ⟨fun u=>?_⟩|(refine svG (fun hg=>?_) (fun hg=>?_)<;>try exact svx)|refine svh (fun hb=>?_) (fun hb=>?_)|refine svb (fun b=>?_)|fail))
    refine S.call ?_; refine (c1 _).mono ?_; rintro r h' ⟨rfl, hh⟩; subst hh
    (repeat' (first|refine svz ⟨fun b hq=>?_⟩|refine svA ⟨?_⟩|refine svu ⟨fun u=>?_⟩|(refine svG (fun hg=>?_) (fun hg=>?_)<;>try exact svx)|refine svh (fun hb=>?_) (fun hb=>?_)|refine svb (fun b=>?_)|fail))
    exact fin_r (h' := h) ⟨rfl, rfl⟩
  · rw [decide_eq_false hh] at c1
    rw [show g.at' x y = 0 by unfold GR.at'; rw [if_neg hh]]
    unfold encG at *
    refine ACalls.intro Tryz.func20 rfl Tryz.ntmps20 Tryz.results20 (Nat.le_of_ble_eq_true rfl) ?_
    (repeat' (first|refine svz ⟨fun b hq=>?_⟩|refine svA ⟨?_⟩|refine svu ⟨fun u=>?_⟩|(refine svG (fun hg=>?_) (fun hg=>?_)<;>try exact svx)|refine svh (fun hb=>?_) (fun hb=>?_)|refine svb (fun b=>?_)|fail))
    refine S.call ?_; refine (c1 _).mono ?_; rintro r h' ⟨rfl, hh⟩; subst hh
    (repeat' (first|refine svz ⟨fun b hq=>?_⟩|refine svA ⟨?_⟩|refine svu ⟨fun u=>?_⟩|(refine svG (fun hg=>?_) (fun hg=>?_)<;>try exact svx)|refine svh (fun hb=>?_) (fun hb=>?_)|refine svb (fun b=>?_)|fail))
    exact fin_r (h' := h) ⟨rfl, rfl⟩
set_option maxRecDepth 100000 in
theorem gtwin_c (g : GR) (h : Heap) (k : g.Ok) : ACalls Tryz.prog 93 [encG g] h (fun r h' => ∃ v, r = .agg [.val (.int .i64 ((g.w : Int))), .val (.int .i64 ((g.h : Int))), .val v] ∧ h' = .own v 1 (ints .u8 g.pix) 53 :: h) := by
  have hm : g.w * g.h ≤ 128 * 128 := Nat.mul_le_mul k.w.2 k.h.2
  have hl := k.len
  have hn : g.pix.length ≤ 16384 := by omega
  have hi : (ints .u8 g.pix).length = g.pix.length := len_ints _ _
  clear hm hl k
  unfold encG
  refine ACalls.intro Tryz.func93 rfl Tryz.ntmps93 Tryz.results93 (Nat.le_of_ble_eq_true rfl) ?_
  (repeat' (first|refine svz ⟨fun b hq=>?_⟩|refine svA ⟨?_⟩|refine svu ⟨fun u=>?_⟩|(refine svG (fun hg=>?_) (fun hg=>?_)<;>try exact svx)|refine svh (fun hb=>?_) (fun hb=>?_)|refine svb (fun b=>?_)|fail))
  have es : splice (List.replicate g.pix.length (AV.val (.int .u8 0))) 0 (ints .u8 g.pix) = ints .u8 g.pix := by
    unfold splice
    rw [hi, List.take_zero, List.nil_append, List.drop_of_length_le (by simp)]; simp
  rw [es]
  exact fin_r (h' := .own u 1 (ints .u8 g.pix) 53 :: h) ⟨u, rfl, rfl⟩
set_option maxRecDepth 100000 in
theorem gset_c (g : GR) (x y p : Int) (h : Heap) (k : g.Ok) : ACalls Tryz.prog 65 [encG g, .val (.int .i64 (x)), .val (.int .i64 (y)), .val (.int .u8 (p))] h (fun r h' => r = encG (g.mix (fun a c => decide (g.has a c) && (decide (a = x) && decide (c = y))) fun _ _ => p) ∧ h' = h) := by
  have c1 := ghas_c g x y
  by_cases hh : g.has x y
  · rw [decide_eq_true hh] at c1
    have tw := fun h => gtwin_c g h k
    obtain ⟨i, j, rfl, rfl, h1, h2, h3, h4, h5⟩ := has_nat k hh
    have e1 : g.mix (fun a c => decide (g.has a c) && (decide (a = (i : Int)) && decide (c = (j : Int)))) (fun _ _ => p) = ⟨g.w, g.h, g.pix.set (j * g.w + i) p⟩ := by
      have := mixG_set (w := g.w) (D := fun _ _ => false) (f := fun _ _ => p) (p := g.pix) (x := i) (y := j) (by unfold GR.has at hh; omega)
      rw [mixG_none] at this
      rw [this]
      unfold GR.mix
      congr 1
      exact mixG_congr h3 (fun c d h1 h2 => by rw [decide_eq_true (show g.has c d by unfold GR.has; omega)]; simp) (fun _ _ _ _ _ => rfl)
    rw [e1]
    clear e1 hh
    have es : ints .u8 (g.pix.set (j * g.w + i) p) = (ints .u8 g.pix).set (j * g.w + i) (.val (.int .u8 (p))) := List.map_set ..
    have es : Hold _ := ⟨es⟩
    refine fz (g := fun v => .agg [.val (.int .i64 ((g.w : Int))), .val (.int .i64 ((g.h : Int))), v]) (g' := fun v => .agg [.val (.int .i64 ((g.w : Int))), .val (.int .i64 ((g.h : Int))), v]) (k := 1) (e := 53) (l := ints .u8 (g.pix.set (j * g.w + i) p)) (fun v => by (repeat' (first | exact Frz.hit | apply Frz.aggc | apply Frz.tupc | exact Frz.aggn | exact Frz.tupn | exact Frz.keep _))) ?_
    unfold encG at *
    refine ACalls.intro Tryz.func65 rfl Tryz.ntmps65 Tryz.results65 (Nat.le_of_ble_eq_true rfl) ?_
    (repeat' (first|refine svz ⟨fun b hq=>?_⟩|refine svA ⟨?_⟩|refine svu ⟨fun u=>?_⟩|(refine svG (fun hg=>?_) (fun hg=>?_)<;>try exact svx)|refine svh (fun hb=>?_) (fun hb=>?_)|refine svb (fun b=>?_)|fail))
    refine S.call ?_; refine (c1 _).mono ?_; rintro r h' ⟨rfl, hh⟩; subst hh
    (repeat' (first|refine svz ⟨fun b hq=>?_⟩|refine svA ⟨?_⟩|refine svu ⟨fun u=>?_⟩|(refine svG (fun hg=>?_) (fun hg=>?_)<;>try exact svx)|refine svh (fun hb=>?_) (fun hb=>?_)|refine svb (fun b=>?_)|fail))
    refine S.call ?_
    refine (tw _).mono ?_
    rintro r h' ⟨v, rfl, hh⟩
    subst hh
    (repeat' (first|refine svz ⟨fun b hq=>?_⟩|refine svA ⟨?_⟩|refine svu ⟨fun u=>?_⟩|(refine svG (fun hg=>?_) (fun hg=>?_)<;>try exact svx)|refine svh (fun hb=>?_) (fun hb=>?_)|refine svb (fun b=>?_)|fail))
    refine fin_r (h' := .own v 1 (ints .u8 (g.pix.set (j * g.w + i) p)) 53 :: h) ⟨v, rfl, rfl⟩ (h2 := ?_)
    rw [es.out]
    exact (by repeat (first | exact LeH.refl _ | exact LeH.nil _ | refine LeH.cons (by (fail_if_success (apply tkG)); (repeat (first | exact Tk.here | apply Tk.there)); first | done | fail) ?_ | refine LeH.boxw (by (fail_if_success (apply tkG)); (repeat (first | exact Tk.here | apply Tk.there)); first | done | fail) (by (repeat (first | exact Wk.refl _ | exact Wk.nilr _ | exact Wk.nilm | apply Wk.aggc | apply Wk.tupc | exact Wk.aggn | exact Wk.tupn)); first | done | fail) ?_ | refine LeH.skip ?_))
  · rw [decide_eq_false hh] at c1
    have e1 : g.mix (fun a c => decide (g.has a c) && (decide (a = x) && decide (c = y))) (fun _ _ => p) = g := by
      unfold GR.mix
      have : (fun a c => decide (g.has a c) && (decide (a = x) && decide (c = y))) = fun _ _ => false := by
        funext a c
        by_cases h1 : a = x
        · subst h1
          by_cases h2 : c = y
          · subst h2; rw [decide_eq_false hh]; rfl
          · simp [h2]
        · simp [h1]
      rw [this, mixG_none]
    rw [e1]
    unfold encG at *
    refine ACalls.intro Tryz.func65 rfl Tryz.ntmps65 Tryz.results65 (Nat.le_of_ble_eq_true rfl) ?_
    (repeat' (first|refine svz ⟨fun b hq=>?_⟩|refine svA ⟨?_⟩|refine svu ⟨fun u=>?_⟩|(refine svG (fun hg=>?_) (fun hg=>?_)<;>try exact svx)|refine svh (fun hb=>?_) (fun hb=>?_)|refine svb (fun b=>?_)|fail))
    refine S.call ?_; refine (c1 _).mono ?_; rintro r h' ⟨rfl, hh⟩; subst hh
    (repeat' (first|refine svz ⟨fun b hq=>?_⟩|refine svA ⟨?_⟩|refine svu ⟨fun u=>?_⟩|(refine svG (fun hg=>?_) (fun hg=>?_)<;>try exact svx)|refine svh (fun hb=>?_) (fun hb=>?_)|refine svb (fun b=>?_)|fail))
    exact fin_r (h' := h) ⟨rfl, rfl⟩
set_option maxRecDepth 100000 in
theorem gnew_c (w h : Nat) (p : Int) (H : Heap) (hw : 1 ≤ w ∧ w ≤ 128) (hh : 1 ≤ h ∧ h ≤ 128) : ACalls Tryz.prog 61 [.val (.int .i64 ((w : Int))), .val (.int .i64 ((h : Int))), .val (.int .u8 (p))] H (fun r h' => r = .tup [encG ⟨w, h, List.replicate (w * h) p⟩, .val (.int .i64 (0))] ∧ h' = H) := by
  have s1 := fun H => gside_c (w : Int) H
  have s2 := fun H => gside_c (h : Int) H
  rw [decide_eq_true (by omega)] at s1 s2
  have hm : w * h ≤ 128 * 128 := Nat.mul_le_mul hw.2 hh.2
  have e : (w : Int) * (h : Int) = ((w * h : Nat) : Int) := by push_cast; rfl
  refine fz (g := fun v => .tup [.agg [.val (.int .i64 ((w : Int))), .val (.int .i64 ((h : Int))), v], .val (.int .i64 (0))]) (g' := fun v => .tup [.agg [.val (.int .i64 ((w : Int))), .val (.int .i64 ((h : Int))), v], .val (.int .i64 (0))]) (k := 1) (e := 53) (l := ints .u8 (List.replicate (w * h) p)) (fun v => by (repeat' (first | exact Frz.hit | apply Frz.aggc | apply Frz.tupc | exact Frz.aggn | exact Frz.tupn | exact Frz.keep _))) ?_
  have hnn : 0 ≤ (w : Int) * (h : Int) ∧ (w : Int) * (h : Int) ≤ 16384 := by rw [e]; omega
  have en : ((w : Int) * (h : Int)).toNat = w * h := by rw [e]; rfl
  refine ACalls.intro Tryz.func61 rfl Tryz.ntmps61 Tryz.results61 (Nat.le_of_ble_eq_true rfl) ?_
  (repeat' (first|refine svz ⟨fun b hq=>?_⟩|refine svA ⟨?_⟩|refine svu ⟨fun u=>?_⟩|(refine svG (fun hg=>?_) (fun hg=>?_)<;>try exact svx)|refine svh (fun hb=>?_) (fun hb=>?_)|refine svb (fun b=>?_)|fail))
  refine S.call ?_; refine (s1 _).mono ?_; rintro r h' ⟨rfl, hh⟩; subst hh
  (repeat' (first|refine svz ⟨fun b hq=>?_⟩|refine svA ⟨?_⟩|refine svu ⟨fun u=>?_⟩|(refine svG (fun hg=>?_) (fun hg=>?_)<;>try exact svx)|refine svh (fun hb=>?_) (fun hb=>?_)|refine svb (fun b=>?_)|fail))
  refine S.call ?_; refine (s2 _).mono ?_; rintro r h' ⟨rfl, hh⟩; subst hh
  (repeat' (first|refine svz ⟨fun b hq=>?_⟩|refine svA ⟨?_⟩|refine svu ⟨fun u=>?_⟩|(refine svG (fun hg=>?_) (fun hg=>?_)<;>try exact svx)|refine svh (fun hb=>?_) (fun hb=>?_)|refine svb (fun b=>?_)|fail))
  revert b; intro b6
  have e0 : List.replicate (w * h) (AV.val (.int .u8 0)) = ints .u8 (List.replicate (w * h) 0) := by simp [ints]
  rw [e0]
  refine W.loop (J := fun i : Nat => ⟨37, [(25, .val (.int .i64 ((i : Nat)))), (24, .val (.int .i64 ((w * h : Nat)))), (0, .val (.int .i64 ((w : Int)))), (1, .val (.int .i64 ((h : Int)))), (2, .val (.int .u8 (p))), (8, .val u), (7, .val (.int .i64 (0))), (6, .val (.pointer (some ⟨b6, 0, none⟩)))], .own u 1 (ints .u8 (List.replicate i p ++ List.replicate (w * h - i) 0)) 53 :: .box b6 [.val (.int .i64 (0)), .val (.int .i64 (0)), .val (.slice none 0 0)] 88 :: H⟩)
    (Φ := fun i => i ≤ w * h) (μ := fun i => w * h - i) 0 lee (Nat.zero_le _) ?_
  rintro i hi
  dsimp only
  rcases Nat.lt_or_ge i (w * h) with hlt | hge
  · have hs : (ints .u8 (List.replicate i p ++ List.replicate (w * h - i) 0)).set i (.val (.int .u8 (p))) = ints .u8 (List.replicate (i + 1) p ++ List.replicate (w * h - (i + 1)) 0) := by
      rw [set8]
      congr 1
      rw [List.set_append_right _ _ (by simp), List.length_replicate, Nat.sub_self, show w * h - i = (w * h - (i + 1)) + 1 by omega, List.replicate_succ, List.set_cons_zero, List.replicate_succ' (n := i)]
      simp
    have hl : (List.replicate i p ++ List.replicate (w * h - i) 0).length = w * h := by simp; omega
    generalize List.replicate i p ++ List.replicate (w * h - i) 0 = M at *
    have hs : Hold _ := ⟨hs⟩
    (repeat' (first|refine svz ⟨fun b hq=>?_⟩|refine svA ⟨?_⟩|refine svu ⟨fun u=>?_⟩|(refine svG (fun hg=>?_) (fun hg=>?_)<;>try exact svx)|refine svh (fun hb=>?_) (fun hb=>?_)|refine svb (fun b=>?_)|fail))
    refine ⟨i + 1, hlt, ?_, by omega⟩
    rw [show ((i + 1 : Nat) : Int) = (i : Int) + 1 by push_cast; rfl, ← hs.out]
    exact lee
  · have ei : i = w * h := by omega
    rw [ei, Nat.sub_self, List.replicate_zero, List.append_nil]
    (repeat' (first|refine svz ⟨fun b hq=>?_⟩|refine svA ⟨?_⟩|refine svu ⟨fun u=>?_⟩|(refine svG (fun hg=>?_) (fun hg=>?_)<;>try exact svx)|refine svh (fun hb=>?_) (fun hb=>?_)|refine svb (fun b=>?_)|fail))
    exact fin_r (h' := .own u 1 (ints .u8 (List.replicate (w * h) p)) 53 :: H) ⟨u, rfl, rfl⟩
end Go.Proofs.YtfbegifmhgkpjaaGreat
