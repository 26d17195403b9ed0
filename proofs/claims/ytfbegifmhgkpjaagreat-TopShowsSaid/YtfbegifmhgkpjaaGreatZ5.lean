/- Grids: Fill, Lay. No condition. -/
import Derived.Test.YtfbegifmhgkpjaaGreatZ4
namespace Go.VM
open Go
set_option linter.unusedVariables false
set_option linter.unusedSimpArgs false
theorem Sel.whole : ∀ h : Heap, Sel h h []
  | [] => .done _
  | x :: h => .ro (Sel.whole h)
theorem App.app : ∀ h r : Heap, App h r (h ++ r)
  | [], r => .nil _
  | x :: h, r => .cons (App.app h r)
theorem Tk.last {x : OE} : ∀ h : Heap, Tk (h ++ [x]) x h
  | [] => .here
  | y :: h => .there (Tk.last h)
theorem LeH.rot (l : Heap) (x : OE) : LeH (l ++ [x]) (x :: l) := LeH.cons (Tk.last l) (LeH.refl l)
end Go.VM
namespace Go.Proofs.YtfbegifmhgkpjaaGreat
open Go Go.VM
attribute [local irreducible] PurV Pur Step RL W D ACalls Then InBlock Fini
set_option linter.unusedVariables false
set_option linter.unusedSimpArgs false
set_option maxHeartbeats 20000000
instance tf_gfill1 : TFun Tryz.prog 95 := ⟨by kernel_rfl⟩
instance tf_glay1 : TFun Tryz.prog 106 := ⟨by kernel_rfl⟩
theorem ints_mix_set {w : Nat} {D : Int → Int → Bool} {f : Int → Int → Int} {p : List Int} {x y : Nat} (hx : x < w) :
    (ints .u8 (mixG w D f p)).set (y * w + x) (.val (.int .u8 (f x y))) = ints .u8 (mixG w (fun a b => D a b || (decide (a = x) && decide (b = y))) f p) := by
  rw [← mixG_set hx]; exact (List.map_set ..).symm
theorem row_nat {w h x y : Nat} {p : List Int} (hp : p.length = w * h) (hw : w ≤ 128) (hh : h ≤ 128) (hx : x < w) (hy : y < h) : y * w + x < w * h ∧ w * h ≤ 16384 ∧ (0 ≤ (y : Int) * (w : Int) ∧ (y : Int) * (w : Int) ≤ 16384) := by
  have hlt := idx_lt hx hy
  have hm : w * h ≤ 128 * 128 := Nat.mul_le_mul hw hh
  have e : (y : Int) * (w : Int) = ((y * w : Nat) : Int) := by push_cast; rfl
  refine ⟨hlt, by omega, ?_⟩
  rw [e]; omega
set_option maxRecDepth 100000 in
theorem gfill1_c (w h y a z : Nat) (q : Int) (v : Value) (p : List Int) (b3 b4 : Nat) (H : Heap) (hp : p.length = w * h) (hw : w ≤ 128) (hh : h ≤ 128) (hy : y < h) (ha : a ≤ z) (hz : z ≤ w)
    (m3 : OE.box b3 [.val (.int .u8 (q))] 53 ∈ H) (m4 : OE.box b4 [.val (.int .i64 ((w : Int))), .val (.int .i64 ((h : Int))), .val v] 88 ∈ H) :
    ACalls Tryz.prog 95 ([.val (.int .i64 ((y : Int))), .val (.int .i64 ((a : Int))), .val (.int .i64 ((z : Int)))] ++ [.val (.pointer (some ⟨b3, 0, none⟩)), .val (.pointer (some ⟨b4, 0, none⟩))]) (.own v 1 (ints .u8 (p)) 53 :: H) (fun r h' => r = .tup [] ∧ h' = .own v 1 (ints .u8 (mixG w (rowD y a z fun _ _ => true) (fun _ _ => q) p)) 53 :: H) := by
  simp only [List.cons_append, List.nil_append]
  refine ACalls.intro Tryz.func95 rfl Tryz.ntmps95 Tryz.results95 (Nat.le_of_ble_eq_true rfl) ?_
  (repeat' (first|refine svz ⟨fun b hq=>?_⟩|refine svA ⟨?_⟩|refine svu ⟨fun u=>?_⟩|(refine svG (fun hg=>?_) (fun hg=>?_)<;>try exact svx)|refine svh (fun hb=>?_) (fun hb=>?_)|refine svb (fun b=>?_)|fail))
  refine W.loop (J := fun x : Nat => ⟨25, [(8, .val (.int .i64 ((x : Int)))), (4, .val (.pointer (some ⟨b4, 0, none⟩))), (3, .val (.pointer (some ⟨b3, 0, none⟩))), (2, .val (.int .i64 ((z : Int)))), (0, .val (.int .i64 ((y : Int))))], .own v 1 (ints .u8 (mixG w (rowD y a x fun _ _ => true) (fun _ _ => q) p)) 53 :: H⟩)
    (Φ := fun x => a ≤ x ∧ x ≤ z) (μ := fun x => z - x) a (by rw [rowD_none, mixG_none]; exact lee) ⟨Nat.le_refl _, ha⟩ ?_
  rintro x ⟨hx0, hx1⟩
  dsimp only
  rcases Nat.lt_or_ge x z with hlt | hge
  · obtain ⟨k1, k2, k3⟩ := row_nat hp hw hh (x := x) (y := y) (by omega) hy
    have hl := mixG_len w (rowD y a x fun _ _ => true) (fun _ _ => q) p
    have hs := ints_mix_set (D := rowD y a x fun _ _ => true) (f := fun _ _ => q) (p := p) (x := x) (y := y) (w := w) (by omega)
    rw [rowD_on (by omega) rfl] at hs
    generalize mixG w (rowD y a x fun _ _ => true) (fun _ _ => q) p = M at *
    have hs : Hold _ := ⟨hs⟩
    (repeat' (first|refine svz ⟨fun b hq=>?_⟩|refine svA ⟨?_⟩|refine svu ⟨fun u=>?_⟩|(refine svG (fun hg=>?_) (fun hg=>?_)<;>try exact svx)|refine svh (fun hb=>?_) (fun hb=>?_)|refine svb (fun b=>?_)|fail))
    refine ⟨x + 1, ⟨by omega, hlt⟩, ?_, by omega⟩
    rw [show ((x + 1 : Nat) : Int) = (x : Int) + 1 by push_cast; rfl, ← hs.out]
    exact lee
  · have e : x = z := by omega
    subst e
    (repeat' (first|refine svz ⟨fun b hq=>?_⟩|refine svA ⟨?_⟩|refine svu ⟨fun u=>?_⟩|(refine svG (fun hg=>?_) (fun hg=>?_)<;>try exact svx)|refine svh (fun hb=>?_) (fun hb=>?_)|refine svb (fun b=>?_)|fail))
    exact fin_n (h' := .own v 1 (ints .u8 (mixG w (rowD y a x fun _ _ => true) (fun _ _ => q) p)) 53 :: H) ⟨rfl, rfl⟩
def layF (s : GR) (dx dy : Int) : Int → Int → Int := fun c d => s.at' (c - dx) (d - dy)
def layD (s : GR) (dx dy : Int) : Int → Int → Bool := fun c d => decide (s.has (c - dx) (d - dy))
set_option maxRecDepth 100000 in
theorem glay1_c (s : GR) (dx dy : Int) (w h y a z : Nat) (v : Value) (p : List Int) (b3 b4 b5 b6 : Nat) (H : Heap) (hs : s.Ok) (hdx : -1048576 ≤ dx ∧ dx ≤ 1048576) (hdy : -1048576 ≤ dy ∧ dy ≤ 1048576) (hp : p.length = w * h) (hw : w ≤ 128) (hh : h ≤ 128) (hy : y < h) (ha : a ≤ z) (hz : z ≤ w)
    (m3 : OE.box b3 [.val (.int .i64 ((s.w : Int))), .val (.int .i64 ((s.h : Int))), .ro 1 (ints .u8 s.pix)] 88 ∈ H) (m4 : OE.box b4 [.val (.int .i64 (dx))] 3 ∈ H) (m5 : OE.box b5 [.val (.int .i64 (dy))] 3 ∈ H) (m6 : OE.box b6 [.val (.int .i64 ((w : Int))), .val (.int .i64 ((h : Int))), .val v] 88 ∈ H) :
    ACalls Tryz.prog 106 ([.val (.int .i64 ((y : Int))), .val (.int .i64 ((a : Int))), .val (.int .i64 ((z : Int)))] ++ [.val (.pointer (some ⟨b3, 0, none⟩)), .val (.pointer (some ⟨b4, 0, none⟩)), .val (.pointer (some ⟨b5, 0, none⟩)), .val (.pointer (some ⟨b6, 0, none⟩))]) (.own v 1 (ints .u8 (p)) 53 :: H) (fun r h' => r = .tup [] ∧ h' = .own v 1 (ints .u8 (mixG w (rowD y a z (layD s dx dy)) (layF s dx dy) p)) 53 :: H) := by
  simp only [List.cons_append, List.nil_append]
  refine ACalls.intro Tryz.func106 rfl Tryz.ntmps106 Tryz.results106 (Nat.le_of_ble_eq_true rfl) ?_
  (repeat' (first|refine svz ⟨fun b hq=>?_⟩|refine svA ⟨?_⟩|refine svu ⟨fun u=>?_⟩|(refine svG (fun hg=>?_) (fun hg=>?_)<;>try exact svx)|refine svh (fun hb=>?_) (fun hb=>?_)|refine svb (fun b=>?_)|fail))
  refine W.loop (J := fun x : Nat => ⟨42, [(10, .val (.int .i64 ((x : Int)))), (6, .val (.pointer (some ⟨b6, 0, none⟩))), (5, .val (.pointer (some ⟨b5, 0, none⟩))), (4, .val (.pointer (some ⟨b4, 0, none⟩))), (3, .val (.pointer (some ⟨b3, 0, none⟩))), (2, .val (.int .i64 ((z : Int)))), (0, .val (.int .i64 ((y : Int))))], .own v 1 (ints .u8 (mixG w (rowD y a x (layD s dx dy)) (layF s dx dy) p)) 53 :: H⟩)
    (Φ := fun x => a ≤ x ∧ x ≤ z) (μ := fun x => z - x) a (by rw [rowD_none, mixG_none]; exact lee) ⟨Nat.le_refl _, ha⟩ ?_
  rintro x ⟨hx0, hx1⟩
  dsimp only
  rcases Nat.lt_or_ge x z with hlt | hge
  · obtain ⟨k1, k2, k3⟩ := row_nat hp hw hh (x := x) (y := y) (by omega) hy
    have hl := mixG_len w (rowD y a x (layD s dx dy)) (layF s dx dy) p
    have c1 := ghas_c s ((x : Int) - dx) ((y : Int) - dy)
    have c2 := fun h => gat_c s ((x : Int) - dx) ((y : Int) - dy) h hs
    unfold encG at c1 c2
    by_cases hg : s.has ((x : Int) - dx) ((y : Int) - dy)
    · rw [decide_eq_true hg] at c1
      have hs := ints_mix_set (D := rowD y a x (layD s dx dy)) (f := layF s dx dy) (p := p) (x := x) (y := y) (w := w) (by omega)
      rw [rowD_on (by omega) (show layD s dx dy x y = true from decide_eq_true hg)] at hs
      rw [show layF s dx dy x y = s.at' ((x : Int) - dx) ((y : Int) - dy) from rfl] at hs
      generalize mixG w (rowD y a x (layD s dx dy)) (layF s dx dy) p = M at *
      generalize s.at' ((x : Int) - dx) ((y : Int) - dy) = q at *
      have hs : Hold _ := ⟨hs⟩
      (repeat' (first|refine svz ⟨fun b hq=>?_⟩|refine svA ⟨?_⟩|refine svu ⟨fun u=>?_⟩|(refine svG (fun hg=>?_) (fun hg=>?_)<;>try exact svx)|refine svh (fun hb=>?_) (fun hb=>?_)|refine svb (fun b=>?_)|fail))
      refine S.call ?_; refine (c1 _).mono ?_; rintro r h' ⟨rfl, hh⟩; subst hh
      (repeat' ((fail_if_success (refine drg ?_)); (first|refine svz ⟨fun b hq=>?_⟩|refine svA ⟨?_⟩|refine svu ⟨fun u=>?_⟩|(refine svG (fun hg=>?_) (fun hg=>?_)<;>try exact svx)|refine svh (fun hb=>?_) (fun hb=>?_)|refine svb (fun b=>?_)|fail)))
      refine W.dr (.rw (Sel.whole _)) ?_
      (repeat' (first|refine svz ⟨fun b hq=>?_⟩|refine svA ⟨?_⟩|refine svu ⟨fun u=>?_⟩|(refine svG (fun hg=>?_) (fun hg=>?_)<;>try exact svx)|refine svh (fun hb=>?_) (fun hb=>?_)|refine svb (fun b=>?_)|fail))
      refine R2.C (c2 _) ?_
      (repeat' (first|refine svz ⟨fun b hq=>?_⟩|refine svA ⟨?_⟩|refine svu ⟨fun u=>?_⟩|(refine svG (fun hg=>?_) (fun hg=>?_)<;>try exact svx)|refine svh (fun hb=>?_) (fun hb=>?_)|refine svb (fun b=>?_)|fail))
      refine R2.B ?_
      (repeat' (first|refine svz ⟨fun b hq=>?_⟩|refine svA ⟨?_⟩|refine svu ⟨fun u=>?_⟩|(refine svG (fun hg=>?_) (fun hg=>?_)<;>try exact svx)|refine svh (fun hb=>?_) (fun hb=>?_)|refine svb (fun b=>?_)|fail))
      refine R2.E ?_ (App.app _ _)
      refine inn ?_
      refine thn ?_
      refine W.le (s' := ⟨42, [(10, .val (.int .i64 ((x : Int)))), (6, .val (.pointer (some ⟨b6, 0, none⟩))), (5, .val (.pointer (some ⟨b5, 0, none⟩))), (4, .val (.pointer (some ⟨b4, 0, none⟩))), (3, .val (.pointer (some ⟨b3, 0, none⟩))), (2, .val (.int .i64 ((z : Int)))), (0, .val (.int .i64 ((y : Int))))], .own v 1 ((ints .u8 M).set (y * w + x) (.val (.int .u8 (q)))) 53 :: H⟩) ⟨rfl, (by repeat (first | exact LeT.nil | refine LeT.cons rfl ?_ | refine LeT.consw rfl (by (repeat (first | exact Wk.refl _ | exact Wk.nilr _ | exact Wk.nilm | apply Wk.aggc | apply Wk.tupc | exact Wk.aggn | exact Wk.tupn)); first | done | fail) ?_)), LeH.cons (Tk.last (x := .own v 1 ((ints .u8 M).set (y * w + x) (.val (.int .u8 (q)))) 53) H) (LeH.refl H)⟩ ?_
      (repeat' (first|refine svz ⟨fun b hq=>?_⟩|refine svA ⟨?_⟩|refine svu ⟨fun u=>?_⟩|(refine svG (fun hg=>?_) (fun hg=>?_)<;>try exact svx)|refine svh (fun hb=>?_) (fun hb=>?_)|refine svb (fun b=>?_)|fail))
      refine ⟨x + 1, ⟨by omega, hlt⟩, ?_, by omega⟩
      rw [show ((x + 1 : Nat) : Int) = (x : Int) + 1 by push_cast; rfl, ← hs.out]
      exact lee
    · rw [decide_eq_false hg] at c1
      have e := rowD_off (y := y) (a := a) (x := x) (g := layD s dx dy) (decide_eq_false hg)
      rw [← e]
      (repeat' (first|refine svz ⟨fun b hq=>?_⟩|refine svA ⟨?_⟩|refine svu ⟨fun u=>?_⟩|(refine svG (fun hg=>?_) (fun hg=>?_)<;>try exact svx)|refine svh (fun hb=>?_) (fun hb=>?_)|refine svb (fun b=>?_)|fail))
      refine S.call ?_; refine (c1 _).mono ?_; rintro r h' ⟨rfl, hh⟩; subst hh
      (repeat' (first|refine svz ⟨fun b hq=>?_⟩|refine svA ⟨?_⟩|refine svu ⟨fun u=>?_⟩|(refine svG (fun hg=>?_) (fun hg=>?_)<;>try exact svx)|refine svh (fun hb=>?_) (fun hb=>?_)|refine svb (fun b=>?_)|fail))
      exact ⟨x + 1, ⟨by omega, hlt⟩, lee, by omega⟩
  · have e : x = z := by omega
    subst e
    (repeat' (first|refine svz ⟨fun b hq=>?_⟩|refine svA ⟨?_⟩|refine svu ⟨fun u=>?_⟩|(refine svG (fun hg=>?_) (fun hg=>?_)<;>try exact svx)|refine svh (fun hb=>?_) (fun hb=>?_)|refine svb (fun b=>?_)|fail))
    exact fin_n (h' := .own v 1 (ints .u8 (mixG w (rowD y a x (layD s dx dy)) (layF s dx dy) p)) 53 :: H) ⟨rfl, rfl⟩
end Go.Proofs.YtfbegifmhgkpjaaGreat
