import Derived.Test.YtlnpelohdamklaaProp6
import Derived.Deep.RegionHeld3
import Derived.Outline
namespace Go.Proofs.Ytlnpelohdamklaa
open Go.RowKit
set_option linter.unusedVariables false
set_option linter.unusedSimpArgs false

set_option maxRecDepth 100000 in
set_option maxHeartbeats 4000000 in
theorem change_mis {F G : Foot} (v : Value) (ps : List PR) (mode : Int) (p old : PR) (dv : Value) (w : World) (i : Nat) (hv : Props F w v ps) (hm : mode = 1 ∨ mode = 2) (hp : p.ok) (hd : Ints G w .i64 dv p.data) (hc : chkF p = 0)
    (hi : ps.findIdx? (fun q => q.name == p.name) = some i) (ho : ps[i]? = some old) (hne : old.typ ≠ p.typ ∨ old.fmt ≠ p.fmt) :
    Calls Try.prog 10 #[.agg #[v], .int .i64 mode, p.val dv] w (ChangePost F w (ps, 14)) := by
  have hil : i < ps.length := (List.getElem?_eq_some_iff.1 ho).1
  obtain ⟨A, c, rfl, k1, k2, _, k4⟩ := Props.open_ hv
  obtain ⟨bk, off, nm', ty', fm', data', dv', rfl, hbk, hok', hdv', HX, c0, c1, c2, c3⟩ := k4 i hil
  obtain ⟨B, d, rfl, _⟩ := hd.shape
  obtain ⟨E, ec, rfl, _⟩ := hdv'.shape
  obtain rfl : old = ⟨nm', ty', fm', data'⟩ := by have := HX.out; rw [ho] at this; injection this
  have HV := Lib.hid hv
  have HD := Lib.hid hd
  have HP := Lib.hid hp
  have HC := Lib.hid hc
  have HI := Lib.hid (atF_some hi)
  have hil' : (i : Int) < (ps.length : Int) := by omega
  obtain ⟨nm, ty, fm, data⟩ := p
  have hn1 : (ty' != ty) = true ∨ (ty' != ty) = false ∧ (fm' != fm) = true := by
    by_cases h : ty' = ty
    · right; exact ⟨by simp [h], by simpa [h] using hne⟩
    · left; simpa using h
  clear hv hd hp hc hi k4 ho hdv' hne
  unfold PR.val
  rcases hm with rfl | rfl <;> rcases hn1 with n1 | ⟨n1, n2⟩
  all_goals
    go_enter Try.func10, Try.ntmps10
    go_wp2_with (first
      | (go_at_call 22; go_must (refine (check_any ⟨nm, ty, fm, data⟩ HP.out _ _ (HD.out.below (by repeat' (first | (with_reducible exact Below.refl _ _) | (with_reducible assumption) | (with_reducible refine Below.setCell ?_ ?_ _) | (with_reducible refine Below.alloc ?_ ?_ _) | (with_reducible refine Below.drew ?_) | omega | (simp; done) | (simp; omega))) (Nat.le_refl _))).mono ?_; rw [HC.out]; rintro e w1 ⟨rfl, hb1⟩; have hz1 := hb1.size; (try simp at hz1); have hc1 := fun (b o : Nat) (h : b < w.heap.size + 3) => hb1.cell (p := ⟨b, o, none⟩) (by first | omega | (simp; done) | (simp; omega)); have hf1 := fun (b o : Nat) (h : b < w.heap.size + 3) => hb1.frozen (p := ⟨b, o, none⟩) (by first | omega | (simp; done) | (simp; omega)); have hB1 : Below w.heap.size w w1 := Below.trans (by repeat' (first | (with_reducible exact Below.refl _ _) | (with_reducible assumption) | (with_reducible refine Below.setCell ?_ ?_ _) | (with_reducible refine Below.alloc ?_ ?_ _) | (with_reducible refine Below.drew ?_) | omega | (simp; done) | (simp; omega))) (hb1.mono (by first | omega | (simp; done) | (simp; omega))); (try have hy1 : w.heap.size < w1.heap.size := by omega); (try have hyb1 : w.heap.size + 1 < w1.heap.size := by omega); (try have hyc1 : w.heap.size + 1 + 1 < w1.heap.size := by omega); (try have hyd1 : w.heap.size + 1 + 1 + 1 < w1.heap.size := by omega)))
      | (go_at_call 23; go_must (refine (at_any _ ps nm _ (HV.out.below (by repeat' (first | (with_reducible exact Below.refl _ _) | (with_reducible assumption) | (with_reducible refine Below.setCell ?_ ?_ _) | (with_reducible refine Below.alloc ?_ ?_ _) | (with_reducible refine Below.drew ?_) | omega | (simp; done) | (simp; omega))) (Nat.le_refl _))).mono ?_; rw [HI.out]; rintro e w2 ⟨rfl, hb2⟩; have hz2 := hb2.size; (try simp at hz2); have hc2 := fun (b o : Nat) (h : b < w.heap.size + 3) => hb2.cell (p := ⟨b, o, none⟩) (by first | omega | (simp; done) | (simp; omega)); have hf2 := fun (b o : Nat) (h : b < w.heap.size + 3) => hb2.frozen (p := ⟨b, o, none⟩) (by first | omega | (simp; done) | (simp; omega)); have hB2 : Below w.heap.size w w2 := Below.trans (by repeat' (first | (with_reducible exact Below.refl _ _) | (with_reducible assumption) | (with_reducible refine Below.setCell ?_ ?_ _) | (with_reducible refine Below.alloc ?_ ?_ _) | (with_reducible refine Below.drew ?_) | omega | (simp; done) | (simp; omega))) (hb2.mono (by first | omega | (simp; done) | (simp; omega))); (try have hy2 : w.heap.size < w2.heap.size := by omega); (try have hyb2 : w.heap.size + 1 < w2.heap.size := by omega); (try have hyc2 : w.heap.size + 1 + 1 < w2.heap.size := by omega); (try have hyd2 : w.heap.size + 1 + 1 + 1 < w2.heap.size := by omega); have d0 := (hB2.cell (p := ⟨bk, off + i * 4, none⟩) hbk).trans c0; have d1 := (hB2.cell (p := ⟨bk, off + i * 4 + 1, none⟩) hbk).trans c1; have d2 := (hB2.cell (p := ⟨bk, off + i * 4 + 2, none⟩) hbk).trans c2; have d3 := (hB2.cell (p := ⟨bk, off + i * 4 + 3, none⟩) hbk).trans c3)))
    refine bodyPost_ret (v := .tuple #[.agg #[.slice (some ⟨bk, off, none⟩) ps.length c], .int .i64 14]) (by simp [results, Try.results10, go_sem, hc2, hc1, hz1, hz2, hyc2, hyc1]) rfl ?_
    exact changePost_same HV.out (by repeat' (first | (with_reducible exact Below.refl _ _) | (with_reducible assumption) | (with_reducible refine Below.setCell ?_ ?_ _) | (with_reducible refine Below.alloc ?_ ?_ _) | (with_reducible refine Below.drew ?_) | omega | (simp; done) | (simp; omega)))

set_option maxRecDepth 100000 in
set_option maxHeartbeats 4000000 in
theorem change_long {F G : Foot} (v : Value) (ps : List PR) (mode : Int) (p old : PR) (dv : Value) (w : World) (i : Nat) (hv : Props F w v ps) (hm : mode = 1 ∨ mode = 2) (hp : p.ok) (hd : Ints G w .i64 dv p.data) (hc : chkF p = 0)
    (hi : ps.findIdx? (fun q => q.name == p.name) = some i) (ho : ps[i]? = some old) (he1 : old.typ = p.typ) (he2 : old.fmt = p.fmt) (hl : 16384 < old.data.length + p.data.length) (hl1 : old.data.length ≤ 100000) (hl2 : p.data.length ≤ 100000) :
    Calls Try.prog 10 #[.agg #[v], .int .i64 mode, p.val dv] w (ChangePost F w (ps, 4)) := by
  have hil : i < ps.length := (List.getElem?_eq_some_iff.1 ho).1
  obtain ⟨A, c, rfl, k1, k2, _, k4⟩ := Props.open_ hv
  obtain ⟨bk, off, nm', ty', fm', data', dv', rfl, hbk, hok', hdv', HX, c0, c1, c2, c3⟩ := k4 i hil
  obtain ⟨B, d, rfl, _⟩ := hd.shape
  obtain ⟨E, ec, rfl, _⟩ := hdv'.shape
  obtain rfl : old = ⟨nm', ty', fm', data'⟩ := by have := HX.out; rw [ho] at this; injection this
  have HV := Lib.hid hv
  have HD := Lib.hid hd
  have HP := Lib.hid hp
  have HC := Lib.hid hc
  have HI := Lib.hid (atF_some hi)
  have hil' : (i : Int) < (ps.length : Int) := by omega
  obtain ⟨nm, ty, fm, data⟩ := p
  simp only at he1 he2 hl hl1 hl2
  subst he1; subst he2
  have hl' : (16384 : Int) < (data'.length : Int) + (data.length : Int) := by omega
  clear hv hd hp hc hi k4 ho hdv'
  unfold PR.val
  rcases hm with rfl | rfl
  all_goals
    go_enter Try.func10, Try.ntmps10
    go_wp2_with (first
      | (go_at_call 22; go_must (refine (check_any ⟨nm, ty', fm', data⟩ HP.out _ _ (HD.out.below (by repeat' (first | (with_reducible exact Below.refl _ _) | (with_reducible assumption) | (with_reducible refine Below.setCell ?_ ?_ _) | (with_reducible refine Below.alloc ?_ ?_ _) | (with_reducible refine Below.drew ?_) | omega | (simp; done) | (simp; omega))) (Nat.le_refl _))).mono ?_; rw [HC.out]; rintro e w1 ⟨rfl, hb1⟩; have hz1 := hb1.size; (try simp at hz1); have hc1 := fun (b o : Nat) (h : b < w.heap.size + 3) => hb1.cell (p := ⟨b, o, none⟩) (by first | omega | (simp; done) | (simp; omega)); have hf1 := fun (b o : Nat) (h : b < w.heap.size + 3) => hb1.frozen (p := ⟨b, o, none⟩) (by first | omega | (simp; done) | (simp; omega)); have hB1 : Below w.heap.size w w1 := Below.trans (by repeat' (first | (with_reducible exact Below.refl _ _) | (with_reducible assumption) | (with_reducible refine Below.setCell ?_ ?_ _) | (with_reducible refine Below.alloc ?_ ?_ _) | (with_reducible refine Below.drew ?_) | omega | (simp; done) | (simp; omega))) (hb1.mono (by first | omega | (simp; done) | (simp; omega))); (try have hy1 : w.heap.size < w1.heap.size := by omega); (try have hyb1 : w.heap.size + 1 < w1.heap.size := by omega); (try have hyc1 : w.heap.size + 1 + 1 < w1.heap.size := by omega); (try have hyd1 : w.heap.size + 1 + 1 + 1 < w1.heap.size := by omega)))
      | (go_at_call 23; go_must (refine (at_any _ ps nm _ (HV.out.below (by repeat' (first | (with_reducible exact Below.refl _ _) | (with_reducible assumption) | (with_reducible refine Below.setCell ?_ ?_ _) | (with_reducible refine Below.alloc ?_ ?_ _) | (with_reducible refine Below.drew ?_) | omega | (simp; done) | (simp; omega))) (Nat.le_refl _))).mono ?_; rw [HI.out]; rintro e w2 ⟨rfl, hb2⟩; have hz2 := hb2.size; (try simp at hz2); have hc2 := fun (b o : Nat) (h : b < w.heap.size + 3) => hb2.cell (p := ⟨b, o, none⟩) (by first | omega | (simp; done) | (simp; omega)); have hf2 := fun (b o : Nat) (h : b < w.heap.size + 3) => hb2.frozen (p := ⟨b, o, none⟩) (by first | omega | (simp; done) | (simp; omega)); have hB2 : Below w.heap.size w w2 := Below.trans (by repeat' (first | (with_reducible exact Below.refl _ _) | (with_reducible assumption) | (with_reducible refine Below.setCell ?_ ?_ _) | (with_reducible refine Below.alloc ?_ ?_ _) | (with_reducible refine Below.drew ?_) | omega | (simp; done) | (simp; omega))) (hb2.mono (by first | omega | (simp; done) | (simp; omega))); (try have hy2 : w.heap.size < w2.heap.size := by omega); (try have hyb2 : w.heap.size + 1 < w2.heap.size := by omega); (try have hyc2 : w.heap.size + 1 + 1 < w2.heap.size := by omega); (try have hyd2 : w.heap.size + 1 + 1 + 1 < w2.heap.size := by omega); have d0 := (hB2.cell (p := ⟨bk, off + i * 4, none⟩) hbk).trans c0; have d1 := (hB2.cell (p := ⟨bk, off + i * 4 + 1, none⟩) hbk).trans c1; have d2 := (hB2.cell (p := ⟨bk, off + i * 4 + 2, none⟩) hbk).trans c2; have d3 := (hB2.cell (p := ⟨bk, off + i * 4 + 3, none⟩) hbk).trans c3)))
    refine bodyPost_ret (v := .tuple #[.agg #[.slice (some ⟨bk, off, none⟩) ps.length c], .int .i64 4]) (by simp [results, Try.results10, go_sem, hc2, hc1, hz1, hz2, hyc2, hyc1]) rfl ?_
    exact changePost_same HV.out (by repeat' (first | (with_reducible exact Below.refl _ _) | (with_reducible assumption) | (with_reducible refine Below.setCell ?_ ?_ _) | (with_reducible refine Below.alloc ?_ ?_ _) | (with_reducible refine Below.drew ?_) | omega | (simp; done) | (simp; omega)))
end Go.Proofs.Ytlnpelohdamklaa
