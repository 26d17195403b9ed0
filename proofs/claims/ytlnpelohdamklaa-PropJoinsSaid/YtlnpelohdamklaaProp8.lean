import Derived.Test.YtlnpelohdamklaaProp7
import Derived.Deep.RegionHeld3
import Derived.Outline
namespace Go.Proofs.Ytlnpelohdamklaa
open Go.RowKit
set_option linter.unusedVariables false
set_option linter.unusedSimpArgs false

theorem set_close {F : Foot} {w w4 : World} {ps : List PR} {css : List (List Value)} {g4 gc4 i B e e' n : Nat} {nm ty fm : Int} {D : List Int} {jv : Value} (hl4 : css.length = ps.length)
    (hr : ∀ (i : Nat) (cs : List Value) (x : PR), css[i]? = some cs → ps[i]? = some x → cs.length = 4 ∧ PR.row F w cs x)
    (ho : w4.ownsRow w.heap.size e' 4 (.slice (some ⟨g4, 0, none⟩) ps.length gc4) ps.length css.flatten) (hi : i < ps.length) (hg : w.heap.size + 3 ≤ g4) (hB4 : Below w.heap.size w w4) (hok : PR.ok ⟨nm, ty, fm, D⟩)
    (hJ : w4.ownsRow B e 1 jv n (D.map (.int .i64))) (hn : n = D.length) (hJg : ∀ k, jv.ownBlock = some k → w.heap.size + 3 ≤ k ∧ k ≠ g4) (u : Value) :
    ChangePost F w (ps.set i ⟨nm, ty, fm, D⟩, 0) (.returned (.tuple #[.agg #[.slice (some ⟨g4, 0, none⟩) ps.length gc4], .int .i64 0]))
      (((((w4.setCell ⟨g4, i * 4, none⟩ (.int .u32 nm)).setCell ⟨g4, i * 4 + 1, none⟩ (.int .u32 ty)).setCell ⟨g4, i * 4 + 2, none⟩ (.int .i64 fm)).setCell ⟨g4, i * 4 + 3, none⟩ jv).setCell ⟨w.heap.size + 1 + 1, 0, none⟩ u) := by
  subst hn
  have h1 := own_store4 ho i (.int .u32 nm) (.int .u32 ty) (.int .i64 fm) jv
  rw [flatten_set4 (rows_len hl4 hr) (by omega)] at h1
  have h2 := own_setCell_ne h1 (a := ⟨w.heap.size + 1 + 1, 0, none⟩) u (by simp [Value.ownBlock]; omega)
  have hn : ∀ (W : World) (a : Addr) (u : Value), (a.block = g4 ∨ a.block = w.heap.size + 1 + 1) → W.ownsRow B e 1 jv D.length (D.map (.int .i64)) → (W.setCell a u).ownsRow B e 1 jv D.length (D.map (.int .i64)) := by
    intro W a u ha h
    refine own_setCell_ne h u (fun hk => ?_)
    have := hJg _ hk
    omega
  have hJ' := hn _ ⟨w.heap.size + 1 + 1, 0, none⟩ u (.inr rfl) (hn _ ⟨g4, i * 4 + 3, none⟩ jv (.inl rfl) (hn _ ⟨g4, i * 4 + 2, none⟩ (.int .i64 fm) (.inl rfl) (hn _ ⟨g4, i * 4 + 1, none⟩ (.int .u32 ty) (.inl rfl) (hn _ ⟨g4, i * 4, none⟩ (.int .u32 nm) (.inl rfl) hJ))))
  have hb : Below w.heap.size w (((((w4.setCell ⟨g4, i * 4, none⟩ (.int .u32 nm)).setCell ⟨g4, i * 4 + 1, none⟩ (.int .u32 ty)).setCell ⟨g4, i * 4 + 2, none⟩ (.int .i64 fm)).setCell ⟨g4, i * 4 + 3, none⟩ jv).setCell ⟨w.heap.size + 1 + 1, 0, none⟩ u) :=
    ((((hB4.setCell (by simp; omega) _).setCell (by simp; omega) _).setCell (by simp; omega) _).setCell (by simp; omega) _).setCell (by simp; omega) _
  refine ⟨_, rfl, hb, css.set i _, by simp [hl4], rows_set (P := fun cs x => cs.length = 4 ∧ PR.row _ _ cs x) hl4 (rows_later PR.mono PR.monoF hr (.of_below hb (Nat.le_refl _)) (fun b h _ => .inl h)) ⟨rfl, hok, jv, rfl, own_ints hJ' rfl (fun b hb _ => .inr (by have := hJg b hb; omega))⟩, ?_⟩
  have h3 := Sl.of_own (F := up F w.heap.size) h2 (fun b hb _ => .inr (by simp [Value.ownBlock] at hb; omega))
  simpa using h3

set_option maxRecDepth 100000 in
set_option maxHeartbeats 4000000 in
theorem change_set0 {F G : Foot} (v : Value) (ps : List PR) (p old : PR) (dv : Value) (w : World) (i : Nat) (hv : Props F w v ps) (hp : p.ok) (hd : Ints G w .i64 dv p.data) (hc : chkF p = 0)
    (hi : ps.findIdx? (fun q => q.name == p.name) = some i) (ho : ps[i]? = some old) (hl2 : p.data.length ≤ 100000) (hpl : ps.length ≤ 100000) :
    Calls Try.prog 10 #[.agg #[v], .int .i64 0, p.val dv] w (ChangePost F w (ps.set i p, 0)) := by
  have hil : i < ps.length := (List.getElem?_eq_some_iff.1 ho).1
  obtain ⟨A, c, rfl, k1, k2, _, k4⟩ := Props.open_ hv
  obtain ⟨bk, off, nm', ty', fm', data', dv', rfl, hbk, hok', hdv', HX, c0, c1, c2, c3⟩ := k4 i hil
  obtain ⟨B, d, rfl, _⟩ := hd.shape
  obtain ⟨E, ec, rfl, _⟩ := hdv'.shape
  have HV := Lib.hid hv
  have HD := Lib.hid hd
  have HP := Lib.hid hp
  have HC := Lib.hid hc
  have HI := Lib.hid (atF_some hi)
  have hil' : (i : Int) < (ps.length : Int) := by omega
  obtain ⟨nm, ty, fm, data⟩ := p
  clear hv hd hp hc hi k4 ho hdv'
  unfold PR.val
  go_enter Try.func10, Try.ntmps10
  go_wp2_with (first
    | (go_at_call 22; go_must (refine (check_any ⟨nm, ty, fm, data⟩ HP.out _ _ (HD.out.below (by repeat' (first | (with_reducible exact Below.refl _ _) | (with_reducible assumption) | (with_reducible refine Below.setCell ?_ ?_ _) | (with_reducible refine Below.alloc ?_ ?_ _) | (with_reducible refine Below.drew ?_) | omega | (simp; done) | (simp; omega))) (Nat.le_refl _))).mono ?_; rw [HC.out]; rintro e w1 ⟨rfl, hb1⟩; have hz1 := hb1.size; (try simp at hz1); have hc1 := fun (b o : Nat) (h : b < w.heap.size + 3) => hb1.cell (p := ⟨b, o, none⟩) (by first | omega | (simp; done) | (simp; omega)); have hf1 := fun (b o : Nat) (h : b < w.heap.size + 3) => hb1.frozen (p := ⟨b, o, none⟩) (by first | omega | (simp; done) | (simp; omega)); have hB1 : Below w.heap.size w w1 := Below.trans (by repeat' (first | (with_reducible exact Below.refl _ _) | (with_reducible assumption) | (with_reducible refine Below.setCell ?_ ?_ _) | (with_reducible refine Below.alloc ?_ ?_ _) | (with_reducible refine Below.drew ?_) | omega | (simp; done) | (simp; omega))) (hb1.mono (by first | omega | (simp; done) | (simp; omega))); (try have hy1 : w.heap.size < w1.heap.size := by omega); (try have hyb1 : w.heap.size + 1 < w1.heap.size := by omega); (try have hyc1 : w.heap.size + 1 + 1 < w1.heap.size := by omega); (try have hyd1 : w.heap.size + 1 + 1 + 1 < w1.heap.size := by omega)))
    | (go_at_call 23; go_must (refine (at_any _ ps nm _ (HV.out.below (by repeat' (first | (with_reducible exact Below.refl _ _) | (with_reducible assumption) | (with_reducible refine Below.setCell ?_ ?_ _) | (with_reducible refine Below.alloc ?_ ?_ _) | (with_reducible refine Below.drew ?_) | omega | (simp; done) | (simp; omega))) (Nat.le_refl _))).mono ?_; rw [HI.out]; rintro e w2 ⟨rfl, hb2⟩; have hz2 := hb2.size; (try simp at hz2); have hc2 := fun (b o : Nat) (h : b < w.heap.size + 3) => hb2.cell (p := ⟨b, o, none⟩) (by first | omega | (simp; done) | (simp; omega)); have hf2 := fun (b o : Nat) (h : b < w.heap.size + 3) => hb2.frozen (p := ⟨b, o, none⟩) (by first | omega | (simp; done) | (simp; omega)); have hB2 : Below w.heap.size w w2 := Below.trans (by repeat' (first | (with_reducible exact Below.refl _ _) | (with_reducible assumption) | (with_reducible refine Below.setCell ?_ ?_ _) | (with_reducible refine Below.alloc ?_ ?_ _) | (with_reducible refine Below.drew ?_) | omega | (simp; done) | (simp; omega))) (hb2.mono (by first | omega | (simp; done) | (simp; omega))); (try have hy2 : w.heap.size < w2.heap.size := by omega); (try have hyb2 : w.heap.size + 1 < w2.heap.size := by omega); (try have hyc2 : w.heap.size + 1 + 1 < w2.heap.size := by omega); (try have hyd2 : w.heap.size + 1 + 1 + 1 < w2.heap.size := by omega); have d0 := (hB2.cell (p := ⟨bk, off + i * 4, none⟩) hbk).trans c0; have d1 := (hB2.cell (p := ⟨bk, off + i * 4 + 1, none⟩) hbk).trans c1; have d2 := (hB2.cell (p := ⟨bk, off + i * 4 + 2, none⟩) hbk).trans c2; have d3 := (hB2.cell (p := ⟨bk, off + i * 4 + 3, none⟩) hbk).trans c3))
    | (go_at_call 24; go_must (refine (join_any _ _ [] data _ (Ints.zero_ (F := F)) (HD.out.below (by repeat' (first | (with_reducible exact Below.refl _ _) | (with_reducible assumption) | (with_reducible refine Below.setCell ?_ ?_ _) | (with_reducible refine Below.alloc ?_ ?_ _) | (with_reducible refine Below.drew ?_) | omega | (simp; done) | (simp; omega))) (Nat.le_refl _)) (by simp; omega)).mono ?_; rintro e w3 ⟨jv, rfl, hb3, hown3⟩; have hz3 := hb3.size; (try simp at hz3); have hc3 := fun (b o : Nat) (h : b < w.heap.size + 3) => hb3.cell (p := ⟨b, o, none⟩) (by first | omega | (simp; done) | (simp; omega)); have hf3 := fun (b o : Nat) (h : b < w.heap.size + 3) => hb3.frozen (p := ⟨b, o, none⟩) (by first | omega | (simp; done) | (simp; omega)); have hB3 : Below w.heap.size w w3 := Below.trans (by repeat' (first | (with_reducible exact Below.refl _ _) | (with_reducible assumption) | (with_reducible refine Below.setCell ?_ ?_ _) | (with_reducible refine Below.alloc ?_ ?_ _) | (with_reducible refine Below.drew ?_) | omega | (simp; done) | (simp; omega))) (hb3.mono (by first | omega | (simp; done) | (simp; omega))); (try have hy3 : w.heap.size < w3.heap.size := by omega); (try have hyb3 : w.heap.size + 1 < w3.heap.size := by omega); (try have hyc3 : w.heap.size + 1 + 1 < w3.heap.size := by omega); (try have hyd3 : w.heap.size + 1 + 1 + 1 < w3.heap.size := by omega); simp only [List.nil_append, List.length_nil, Nat.zero_add] at hown3; have HJ := Lib.hid hown3; obtain ⟨J, jc, rfl, _⟩ := own_shape hown3; clear hown3))
    | (go_at_call 25; go_must (refine (clone_any _ ps w _ HV.out (by repeat' (first | (with_reducible exact Below.refl _ _) | (with_reducible assumption) | (with_reducible refine Below.setCell ?_ ?_ _) | (with_reducible refine Below.alloc ?_ ?_ _) | (with_reducible refine Below.drew ?_) | omega | (simp; done) | (simp; omega))) (by omega)).mono ?_; rintro e w4 ⟨cv, rfl, hb4, ⟨css, hl4, hr4, ho4⟩, hk4⟩; have hz4 := hb4.size; (try simp at hz4); have hc4 := fun (b o : Nat) (h : b < w.heap.size + 3) => hb4.cell (p := ⟨b, o, none⟩) (by first | omega | (simp; done) | (simp; omega)); have hf4 := fun (b o : Nat) (h : b < w.heap.size + 3) => hb4.frozen (p := ⟨b, o, none⟩) (by first | omega | (simp; done) | (simp; omega)); have hB4 : Below w.heap.size w w4 := Below.trans (by repeat' (first | (with_reducible exact Below.refl _ _) | (with_reducible assumption) | (with_reducible refine Below.setCell ?_ ?_ _) | (with_reducible refine Below.alloc ?_ ?_ _) | (with_reducible refine Below.drew ?_) | omega | (simp; done) | (simp; omega))) (hb4.mono (by first | omega | (simp; done) | (simp; omega))); (try have hy4 : w.heap.size < w4.heap.size := by omega); (try have hyb4 : w.heap.size + 1 < w4.heap.size := by omega); (try have hyc4 : w.heap.size + 1 + 1 < w4.heap.size := by omega); (try have hyd4 : w.heap.size + 1 + 1 + 1 < w4.heap.size := by omega); have HR := Lib.hid hr4; clear hr4; obtain ⟨g4, gc4, rfl, hg4, hg4'⟩ := ho4.form (by omega); have hg5 := hk4 g4 rfl; (try simp only [World.size_setCell] at hg5); have gn0 : ¬ g4 = w.heap.size := (by omega); have gn1 : ¬ g4 = w.heap.size + 1 := (by omega); have gn2 : ¬ g4 = w.heap.size + 1 + 1 := (by omega); obtain ⟨y0, y1, y2, y3, q0, q1, q2, q3⟩ := own_at4 ho4 hil; have qf := own_fr ho4; have HO := Lib.hid ho4; clear ho4)))
  refine bodyPost_ret (v := .tuple #[.agg #[.slice (some ⟨g4, 0, none⟩) ps.length gc4], .int .i64 0]) (by simp [results, Try.results10, go_sem, gn0, gn1, gn2, hc4, hc3, hc2, hc1, hyc4, hyc3, hyc2, hyc1]) rfl ?_
  refine set_close hl4 HR.out HO.out hil (by omega) hB4 HP.out (own_below (own_setCell_ne HJ.out _ (fun h => ?_)) hb4 (Nat.le_refl _)) (by first | rfl | simp) (fun k hk => ?_) _
  · have := HJ.out.lt _ h; simp at this; omega
  · have := HJ.out.lt k hk; simp at this; omega
end Go.Proofs.Ytlnpelohdamklaa
