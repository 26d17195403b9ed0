import Derived.Test.YtlnpelohdamklaaProp15
import Derived.Deep.RegionHeld3
import Derived.Outline
namespace Go.Proofs.Ytlnpelohdamklaa
open Go.RowKit
set_option linter.unusedVariables false
set_option linter.unusedSimpArgs false


theorem Ints.cut {F : Foot} {w : World} {k : IntKind} {E : Option Addr} {ec lo hi : Nat} {xs : List Int} (h : Ints F w k (.slice E xs.length ec) xs) (h1 : lo ≤ hi) (h2 : hi ≤ xs.length) :
    Ints F w k (.slice (if ec = lo then E else E.map (·.add (lo * 1))) (hi - lo) (ec - lo)) ((xs.drop lo).take (hi - lo)) := by
  have hl : ((xs.drop lo).take (hi - lo)).length = hi - lo := by rw [List.length_take, List.length_drop]; omega
  obtain ⟨A, c, e, g1, g2, g3, g4, g5⟩ := h
  injection e with e1 e2 e3
  subst e1; subst e3
  unfold Ints
  rw [hl]
  refine ⟨_, _, rfl, by omega, by omega, by rw [List.length_map, hl]; omega, ?_, fun hn => ?_⟩
  · split
    · intro _; omega
    · intro h
      have : E = none := by cases E <;> simp_all
      have := g4 this
      omega
  · obtain ⟨ad, ha, hb, hF, hc⟩ := g5 (by omega)
    subst ha
    rw [if_neg (by omega)]
    refine ⟨_, rfl, by rw [block_of_add]; exact hb, by rw [block_of_add]; exact hF, fun j u hu => ?_⟩
    rw [add_of_add]
    refine hc _ u ?_
    rw [List.map_take, List.map_drop, List.getElem?_take] at hu
    split at hu
    · rw [List.getElem?_drop] at hu
      rw [Nat.mul_one]; exact hu
    · cases hu

set_option maxRecDepth 100000 in
set_option maxHeartbeats 1000000 in
theorem get_piece {F : Foot} (v : Value) (ps : List PR) (n k : Int) (o l : Nat) (w : World) (i : Nat) (p : PR) (hv : Props F w v ps) (hi : ps.findIdx? (fun q => q.name == n) = some i) (hp : ps[i]? = some p)
    (hk : k = 0 ∨ k = p.typ) (ho : o ≤ p.data.length) (hlm : l ≤ 9223372036854775807) (hdl : p.data.length ≤ 100000) :
    Calls Try.prog 16 #[.agg #[v], .int .u32 n, .int .u32 k, .int .i64 o, .int .i64 l, .bool false] w (GetPost F w (ps, piece p o l, true, 0)) := by
  have hil : i < ps.length := (List.getElem?_eq_some_iff.1 hp).1
  obtain ⟨A, c, rfl, k1, k2, _, k4⟩ := Props.open_ hv
  obtain ⟨bk, off, nm', ty', fm', data', dv', rfl, hbk, hok', hdv', HX, c0, c1, c2, c3⟩ := k4 i hil
  obtain rfl : p = ⟨nm', ty', fm', data'⟩ := by have := HX.out; rw [hp] at this; injection this
  obtain ⟨E, ec, rfl, _⟩ := hdv'.shape
  have HV := Lib.hid hv
  have HI := Lib.hid (atF_some hi)
  have hil' : (i : Int) < (ps.length : Int) := by omega
  have HD := Lib.hid hdv'
  clear hv hi k4 hp hdv'
  simp only at hk ho hdl
  have hk' : (k != 0) = false ∨ (k != 0) = true ∧ (k != ty') = false := by
    by_cases h0 : k = 0
    · left; simp [h0]
    · right; exact ⟨by simpa using h0, by simpa using hk.resolve_left h0⟩
  clear hk
  have ho' : ¬ ((data'.length : Int) < (o : Int)) := by omega
  by_cases hE : ec = o
  · have hE' := hE.symm
    subst hE'
    clear hE
    by_cases hL : l ≤ data'.length - o
    · have HC := Ints.cut HD.out (lo := o) (hi := o + l) (by omega) (by omega)
      have hLi : ¬ ((data'.length : Int) - (o : Int) < (l : Int)) := by omega
      rw [if_pos rfl, show o + l - o = l by omega, Nat.sub_self] at HC
      have hlen : ((data'.drop o).take (l)).length = l := by rw [List.length_take, List.length_drop]; omega
      obtain ⟨D, hD⟩ : ∃ D, D = (data'.drop o).take (l) := ⟨_, rfl⟩
      rw [← hD] at HC hlen
      have HP : Hid (piece ⟨nm', ty', fm', data'⟩ o l = ⟨ty', fm', ((data'.length : Int) - (o : Int) - (l : Int)), D⟩) := by
        show _ = _
        simp only [piece, Int.toNat_natCast]
        have e1 : min l (data'.length - o) = l := by omega
        rw [e1, ← hD]
        congr 1
        omega
      rw [HP.out]
      clear HP
      have hDl : D.length ≤ 100000 := by omega
      have HL := Lib.hid hlen
      have HC' := Lib.hid HC
      clear hD hlen HC
      rcases hk' with q1 | ⟨q1, q2⟩
      all_goals
        go_enter Try.func16, Try.ntmps16
        go_wp2_with (first
          | (go_at_call 23; go_must (refine (at_any _ ps n _ (HV.out.below (by repeat' (first | (with_reducible exact Below.refl _ _) | (with_reducible assumption) | (with_reducible refine Below.setCell ?_ ?_ _) | (with_reducible refine Below.alloc ?_ ?_ _) | (with_reducible refine Below.drew ?_) | omega | (simp; done) | (simp; omega))) (Nat.le_refl _))).mono ?_; rw [HI.out]; rintro e w2 ⟨rfl, hb2⟩; have hz2 := hb2.size; (try simp at hz2); have hc2 := fun (b o : Nat) (h : b < w.heap.size + 3) => hb2.cell (p := ⟨b, o, none⟩) (by first | omega | (simp; done) | (simp; omega)); have hf2 := fun (b o : Nat) (h : b < w.heap.size + 3) => hb2.frozen (p := ⟨b, o, none⟩) (by first | omega | (simp; done) | (simp; omega)); have hB2 : Below w.heap.size w w2 := Below.trans (by repeat' (first | (with_reducible exact Below.refl _ _) | (with_reducible assumption) | (with_reducible refine Below.setCell ?_ ?_ _) | (with_reducible refine Below.alloc ?_ ?_ _) | (with_reducible refine Below.drew ?_) | omega | (simp; done) | (simp; omega))) (hb2.mono (by first | omega | (simp; done) | (simp; omega))); (try have hy2 : w.heap.size < w2.heap.size := by omega); (try have hyb2 : w.heap.size + 1 < w2.heap.size := by omega); (try have hyc2 : w.heap.size + 1 + 1 < w2.heap.size := by omega); (try have hyd2 : w.heap.size + 1 + 1 + 1 < w2.heap.size := by omega); have d0 := (hB2.cell (p := ⟨bk, off + i * 4, none⟩) hbk).trans c0; have d1 := (hB2.cell (p := ⟨bk, off + i * 4 + 1, none⟩) hbk).trans c1; have d2 := (hB2.cell (p := ⟨bk, off + i * 4 + 2, none⟩) hbk).trans c2; have d3 := (hB2.cell (p := ⟨bk, off + i * 4 + 3, none⟩) hbk).trans c3))
          | (go_at_call 24; go_must (refine (join_any _ _ [] D _ (Ints.zero_ (F := F)) (Ints.below (w := w) (F := F) (by first | exact HC'.out | simpa using HC'.out | simpa [show data'.length - o = 0 by omega] using HC'.out) (by repeat' (first | (with_reducible exact Below.refl _ _) | (with_reducible assumption) | (with_reducible refine Below.setCell ?_ ?_ _) | (with_reducible refine Below.alloc ?_ ?_ _) | (with_reducible refine Below.drew ?_) | omega | (simp; done) | (simp; omega))) (Nat.le_refl _)) (by simp; omega)).mono ?_; rintro e w3 ⟨jv, rfl, hb3, hown3⟩; have hz3 := hb3.size; (try simp at hz3); have hc3 := fun (b o : Nat) (h : b < w.heap.size + 3) => hb3.cell (p := ⟨b, o, none⟩) (by first | omega | (simp; done) | (simp; omega)); have hf3 := fun (b o : Nat) (h : b < w.heap.size + 3) => hb3.frozen (p := ⟨b, o, none⟩) (by first | omega | (simp; done) | (simp; omega)); have hB3 : Below w.heap.size w w3 := Below.trans (by repeat' (first | (with_reducible exact Below.refl _ _) | (with_reducible assumption) | (with_reducible refine Below.setCell ?_ ?_ _) | (with_reducible refine Below.alloc ?_ ?_ _) | (with_reducible refine Below.drew ?_) | omega | (simp; done) | (simp; omega))) (hb3.mono (by first | omega | (simp; done) | (simp; omega))); (try have hy3 : w.heap.size < w3.heap.size := by omega); (try have hyb3 : w.heap.size + 1 < w3.heap.size := by omega); (try have hyc3 : w.heap.size + 1 + 1 < w3.heap.size := by omega); (try have hyd3 : w.heap.size + 1 + 1 + 1 < w3.heap.size := by omega); have hc3x := fun (b o : Nat) (h : b < w2.heap.size + 2) => hb3.cell (p := ⟨b, o, none⟩) (by first | omega | (simp; done) | (simp; omega)); have hf3x := fun (b o : Nat) (h : b < w2.heap.size + 2) => hb3.frozen (p := ⟨b, o, none⟩) (by first | omega | (simp; done) | (simp; omega)); simp only [List.nil_append, List.length_nil, Nat.zero_add, HL.out, World.size_alloc] at hown3; have HJ := Lib.hid hown3; obtain ⟨J, jc, rfl, _⟩ := own_shape hown3; clear hown3)))
        go_region_held3 (fun w' => w'.cell? ⟨w.heap.size, 0, none⟩ = some (.slice (some ⟨bk, off, none⟩) ps.length c) ∧ w'.cell? ⟨w2.heap.size + 1, 0, none⟩ = some (.int .u32 ty') ∧ w'.cell? ⟨w2.heap.size + 1, 1, none⟩ = some (.int .i64 fm') ∧
          w'.cell? ⟨w2.heap.size + 1, 2, none⟩ = some (.int .i64 ((data'.length : Int) - (o : Int) - (l : Int))) ∧ w'.cell? ⟨w2.heap.size + 1, 3, none⟩ = some (.slice J l jc)) (((try dsimp only); (repeat' apply And.intro) <;> go_simp)) (fail)
        go_wp2
        have z0 : w3.cell? ⟨w.heap.size + 1 + 1, 0, none⟩ = some (.int .u32 0) := by go_simp
        have z1 : w3.cell? ⟨w.heap.size + 1 + 1, 1, none⟩ = some (.int .i64 0) := by go_simp
        have z2 : w3.cell? ⟨w.heap.size + 1 + 1, 2, none⟩ = some (.int .i64 0) := by go_simp
        have z3 : w3.cell? ⟨w.heap.size + 1 + 1, 3, none⟩ = some (.slice none 0 0) := by go_simp
        have z4 : w3.cell? ⟨w.heap.size + 1, 0, none⟩ = some (.slice none 0 0) := by go_simp
        have g0 : ¬ w2.heap.size + 1 = w.heap.size + 1 := by omega
        have g1 : ¬ w2.heap.size + 1 = w.heap.size + 1 + 1 := by omega
        have g2 : ¬ w2.heap.size = w.heap.size := by omega
        have g3 : ¬ w2.heap.size = w.heap.size + 1 := by omega
        refine bodyPost_ret (v := .tuple #[.agg #[.slice (some ⟨bk, off, none⟩) ps.length c], .agg #[.int .u32 ty', .int .i64 fm', .int .i64 ((data'.length : Int) - (o : Int) - (l : Int)), .slice J l jc], .bool true, .int .i64 0]) (by simp [results, Try.results16, go_sem, z0, z1, z2, z3, z4, g0, g1, g2, g3]) rfl ?_
        exact getPost_same (f := ⟨ty', fm', ((data'.length : Int) - (o : Int) - (l : Int)), D⟩) HV.out (by repeat' (first | (with_reducible exact Below.refl _ _) | (with_reducible assumption) | (with_reducible refine Below.setCell ?_ ?_ _) | (with_reducible refine Below.alloc ?_ ?_ _) | (with_reducible refine Below.drew ?_) | omega | (simp; done) | (simp; omega))) (own_ints (base := w2.heap.size + 1 + 1) (e := 2) (n := l) (by (repeat (first | (with_reducible exact HJ.out) | (with_reducible exact ho5) | (with_reducible refine ownsRow_setCell_below ?_ (by first | omega | (simp; done) | (simp; omega)) _) | (with_reducible refine World.ownsRow.alloc ?_ _) | (with_reducible refine own_drew ?_) | (with_reducible refine own_below ?_ hb4 (Nat.le_refl _)) | (with_reducible refine World.ownsRow.kept ?_ hg5 hne)))) HL.out.symm (fun b _ hb => by omega))
    · have HC := Ints.cut HD.out (lo := o) (hi := o) (by omega) (by omega)
      have hLi : (data'.length : Int) - (o : Int) < (l : Int) := by omega
      rw [if_pos rfl, Nat.sub_self] at HC
      have hlen : ((data'.drop o).take (0)).length = 0 := by rw [List.length_take, List.length_drop]; omega
      obtain ⟨D, hD⟩ : ∃ D, D = (data'.drop o).take 0 := ⟨_, rfl⟩
      rw [← hD] at HC hlen
      have HP : Hid (piece ⟨nm', ty', fm', data'⟩ o l = ⟨ty', fm', 0, D⟩) := by
        show _ = _
        simp only [piece, Int.toNat_natCast]
        have e1 : min l (data'.length - o) = 0 := by omega
        rw [e1, ← hD]
        congr 1
        omega
      rw [HP.out]
      clear HP
      have hDl : D.length ≤ 100000 := by omega
      have HL := Lib.hid hlen
      have HC' := Lib.hid HC
      clear hD hlen HC
      rcases hk' with q1 | ⟨q1, q2⟩
      all_goals
        go_enter Try.func16, Try.ntmps16
        go_wp2_with (first
          | (go_at_call 23; go_must (refine (at_any _ ps n _ (HV.out.below (by repeat' (first | (with_reducible exact Below.refl _ _) | (with_reducible assumption) | (with_reducible refine Below.setCell ?_ ?_ _) | (with_reducible refine Below.alloc ?_ ?_ _) | (with_reducible refine Below.drew ?_) | omega | (simp; done) | (simp; omega))) (Nat.le_refl _))).mono ?_; rw [HI.out]; rintro e w2 ⟨rfl, hb2⟩; have hz2 := hb2.size; (try simp at hz2); have hc2 := fun (b o : Nat) (h : b < w.heap.size + 3) => hb2.cell (p := ⟨b, o, none⟩) (by first | omega | (simp; done) | (simp; omega)); have hf2 := fun (b o : Nat) (h : b < w.heap.size + 3) => hb2.frozen (p := ⟨b, o, none⟩) (by first | omega | (simp; done) | (simp; omega)); have hB2 : Below w.heap.size w w2 := Below.trans (by repeat' (first | (with_reducible exact Below.refl _ _) | (with_reducible assumption) | (with_reducible refine Below.setCell ?_ ?_ _) | (with_reducible refine Below.alloc ?_ ?_ _) | (with_reducible refine Below.drew ?_) | omega | (simp; done) | (simp; omega))) (hb2.mono (by first | omega | (simp; done) | (simp; omega))); (try have hy2 : w.heap.size < w2.heap.size := by omega); (try have hyb2 : w.heap.size + 1 < w2.heap.size := by omega); (try have hyc2 : w.heap.size + 1 + 1 < w2.heap.size := by omega); (try have hyd2 : w.heap.size + 1 + 1 + 1 < w2.heap.size := by omega); have d0 := (hB2.cell (p := ⟨bk, off + i * 4, none⟩) hbk).trans c0; have d1 := (hB2.cell (p := ⟨bk, off + i * 4 + 1, none⟩) hbk).trans c1; have d2 := (hB2.cell (p := ⟨bk, off + i * 4 + 2, none⟩) hbk).trans c2; have d3 := (hB2.cell (p := ⟨bk, off + i * 4 + 3, none⟩) hbk).trans c3))
          | (go_at_call 24; go_must (refine (join_any _ _ [] D _ (Ints.zero_ (F := F)) (Ints.below (w := w) (F := F) (by first | exact HC'.out | simpa using HC'.out | simpa [show data'.length - o = 0 by omega] using HC'.out) (by repeat' (first | (with_reducible exact Below.refl _ _) | (with_reducible assumption) | (with_reducible refine Below.setCell ?_ ?_ _) | (with_reducible refine Below.alloc ?_ ?_ _) | (with_reducible refine Below.drew ?_) | omega | (simp; done) | (simp; omega))) (Nat.le_refl _)) (by simp; omega)).mono ?_; rintro e w3 ⟨jv, rfl, hb3, hown3⟩; have hz3 := hb3.size; (try simp at hz3); have hc3 := fun (b o : Nat) (h : b < w.heap.size + 3) => hb3.cell (p := ⟨b, o, none⟩) (by first | omega | (simp; done) | (simp; omega)); have hf3 := fun (b o : Nat) (h : b < w.heap.size + 3) => hb3.frozen (p := ⟨b, o, none⟩) (by first | omega | (simp; done) | (simp; omega)); have hB3 : Below w.heap.size w w3 := Below.trans (by repeat' (first | (with_reducible exact Below.refl _ _) | (with_reducible assumption) | (with_reducible refine Below.setCell ?_ ?_ _) | (with_reducible refine Below.alloc ?_ ?_ _) | (with_reducible refine Below.drew ?_) | omega | (simp; done) | (simp; omega))) (hb3.mono (by first | omega | (simp; done) | (simp; omega))); (try have hy3 : w.heap.size < w3.heap.size := by omega); (try have hyb3 : w.heap.size + 1 < w3.heap.size := by omega); (try have hyc3 : w.heap.size + 1 + 1 < w3.heap.size := by omega); (try have hyd3 : w.heap.size + 1 + 1 + 1 < w3.heap.size := by omega); have hc3x := fun (b o : Nat) (h : b < w2.heap.size + 2) => hb3.cell (p := ⟨b, o, none⟩) (by first | omega | (simp; done) | (simp; omega)); have hf3x := fun (b o : Nat) (h : b < w2.heap.size + 2) => hb3.frozen (p := ⟨b, o, none⟩) (by first | omega | (simp; done) | (simp; omega)); simp only [List.nil_append, List.length_nil, Nat.zero_add, HL.out, World.size_alloc] at hown3; have HJ := Lib.hid hown3; obtain ⟨J, jc, rfl, _⟩ := own_shape hown3; clear hown3)))
        go_region_held3 (fun w' => w'.cell? ⟨w.heap.size, 0, none⟩ = some (.slice (some ⟨bk, off, none⟩) ps.length c) ∧ w'.cell? ⟨w2.heap.size + 1, 0, none⟩ = some (.int .u32 ty') ∧ w'.cell? ⟨w2.heap.size + 1, 1, none⟩ = some (.int .i64 fm') ∧
          w'.cell? ⟨w2.heap.size + 1, 2, none⟩ = some (.int .i64 0) ∧ w'.cell? ⟨w2.heap.size + 1, 3, none⟩ = some (.slice J 0 jc)) (((try dsimp only); (repeat' apply And.intro) <;> go_simp)) (fail)
        go_wp2
        have z0 : w3.cell? ⟨w.heap.size + 1 + 1, 0, none⟩ = some (.int .u32 0) := by go_simp
        have z1 : w3.cell? ⟨w.heap.size + 1 + 1, 1, none⟩ = some (.int .i64 0) := by go_simp
        have z2 : w3.cell? ⟨w.heap.size + 1 + 1, 2, none⟩ = some (.int .i64 0) := by go_simp
        have z3 : w3.cell? ⟨w.heap.size + 1 + 1, 3, none⟩ = some (.slice none 0 0) := by go_simp
        have z4 : w3.cell? ⟨w.heap.size + 1, 0, none⟩ = some (.slice none 0 0) := by go_simp
        have g0 : ¬ w2.heap.size + 1 = w.heap.size + 1 := by omega
        have g1 : ¬ w2.heap.size + 1 = w.heap.size + 1 + 1 := by omega
        have g2 : ¬ w2.heap.size = w.heap.size := by omega
        have g3 : ¬ w2.heap.size = w.heap.size + 1 := by omega
        refine bodyPost_ret (v := .tuple #[.agg #[.slice (some ⟨bk, off, none⟩) ps.length c], .agg #[.int .u32 ty', .int .i64 fm', .int .i64 0, .slice J 0 jc], .bool true, .int .i64 0]) (by simp [results, Try.results16, go_sem, z0, z1, z2, z3, z4, g0, g1, g2, g3]) rfl ?_
        exact getPost_same (f := ⟨ty', fm', 0, D⟩) HV.out (by repeat' (first | (with_reducible exact Below.refl _ _) | (with_reducible assumption) | (with_reducible refine Below.setCell ?_ ?_ _) | (with_reducible refine Below.alloc ?_ ?_ _) | (with_reducible refine Below.drew ?_) | omega | (simp; done) | (simp; omega))) (own_ints (base := w2.heap.size + 1 + 1) (e := 2) (n := 0) (by (repeat (first | (with_reducible exact HJ.out) | (with_reducible exact ho5) | (with_reducible refine ownsRow_setCell_below ?_ (by first | omega | (simp; done) | (simp; omega)) _) | (with_reducible refine World.ownsRow.alloc ?_ _) | (with_reducible refine own_drew ?_) | (with_reducible refine own_below ?_ hb4 (Nat.le_refl _)) | (with_reducible refine World.ownsRow.kept ?_ hg5 hne)))) HL.out.symm (fun b _ hb => by omega))
  by_cases hL : l ≤ data'.length - o
  · have HC := Ints.cut HD.out (lo := o) (hi := o + l) (by omega) (by omega)
    have hLi : ¬ ((data'.length : Int) - (o : Int) < (l : Int)) := by omega
    rw [if_neg hE, show o + l - o = l by omega] at HC
    have hlen : ((data'.drop o).take (l)).length = l := by rw [List.length_take, List.length_drop]; omega
    obtain ⟨D, hD⟩ : ∃ D, D = (data'.drop o).take (l) := ⟨_, rfl⟩
    rw [← hD] at HC hlen
    have HP : Hid (piece ⟨nm', ty', fm', data'⟩ o l = ⟨ty', fm', ((data'.length : Int) - (o : Int) - (l : Int)), D⟩) := by
      show _ = _
      simp only [piece, Int.toNat_natCast]
      have e1 : min l (data'.length - o) = l := by omega
      rw [e1, ← hD]
      congr 1
      omega
    rw [HP.out]
    clear HP
    have hDl : D.length ≤ 100000 := by omega
    have HL := Lib.hid hlen
    have HC' := Lib.hid HC
    clear hD hlen HC
    rcases hk' with q1 | ⟨q1, q2⟩
    all_goals
      go_enter Try.func16, Try.ntmps16
      go_wp2_with (first
        | (go_at_call 23; go_must (refine (at_any _ ps n _ (HV.out.below (by repeat' (first | (with_reducible exact Below.refl _ _) | (with_reducible assumption) | (with_reducible refine Below.setCell ?_ ?_ _) | (with_reducible refine Below.alloc ?_ ?_ _) | (with_reducible refine Below.drew ?_) | omega | (simp; done) | (simp; omega))) (Nat.le_refl _))).mono ?_; rw [HI.out]; rintro e w2 ⟨rfl, hb2⟩; have hz2 := hb2.size; (try simp at hz2); have hc2 := fun (b o : Nat) (h : b < w.heap.size + 3) => hb2.cell (p := ⟨b, o, none⟩) (by first | omega | (simp; done) | (simp; omega)); have hf2 := fun (b o : Nat) (h : b < w.heap.size + 3) => hb2.frozen (p := ⟨b, o, none⟩) (by first | omega | (simp; done) | (simp; omega)); have hB2 : Below w.heap.size w w2 := Below.trans (by repeat' (first | (with_reducible exact Below.refl _ _) | (with_reducible assumption) | (with_reducible refine Below.setCell ?_ ?_ _) | (with_reducible refine Below.alloc ?_ ?_ _) | (with_reducible refine Below.drew ?_) | omega | (simp; done) | (simp; omega))) (hb2.mono (by first | omega | (simp; done) | (simp; omega))); (try have hy2 : w.heap.size < w2.heap.size := by omega); (try have hyb2 : w.heap.size + 1 < w2.heap.size := by omega); (try have hyc2 : w.heap.size + 1 + 1 < w2.heap.size := by omega); (try have hyd2 : w.heap.size + 1 + 1 + 1 < w2.heap.size := by omega); have d0 := (hB2.cell (p := ⟨bk, off + i * 4, none⟩) hbk).trans c0; have d1 := (hB2.cell (p := ⟨bk, off + i * 4 + 1, none⟩) hbk).trans c1; have d2 := (hB2.cell (p := ⟨bk, off + i * 4 + 2, none⟩) hbk).trans c2; have d3 := (hB2.cell (p := ⟨bk, off + i * 4 + 3, none⟩) hbk).trans c3))
        | (go_at_call 24; go_must (refine (join_any _ _ [] D _ (Ints.zero_ (F := F)) (Ints.below (w := w) (F := F) (by first | exact HC'.out | simpa using HC'.out | simpa [show data'.length - o = 0 by omega] using HC'.out) (by repeat' (first | (with_reducible exact Below.refl _ _) | (with_reducible assumption) | (with_reducible refine Below.setCell ?_ ?_ _) | (with_reducible refine Below.alloc ?_ ?_ _) | (with_reducible refine Below.drew ?_) | omega | (simp; done) | (simp; omega))) (Nat.le_refl _)) (by simp; omega)).mono ?_; rintro e w3 ⟨jv, rfl, hb3, hown3⟩; have hz3 := hb3.size; (try simp at hz3); have hc3 := fun (b o : Nat) (h : b < w.heap.size + 3) => hb3.cell (p := ⟨b, o, none⟩) (by first | omega | (simp; done) | (simp; omega)); have hf3 := fun (b o : Nat) (h : b < w.heap.size + 3) => hb3.frozen (p := ⟨b, o, none⟩) (by first | omega | (simp; done) | (simp; omega)); have hB3 : Below w.heap.size w w3 := Below.trans (by repeat' (first | (with_reducible exact Below.refl _ _) | (with_reducible assumption) | (with_reducible refine Below.setCell ?_ ?_ _) | (with_reducible refine Below.alloc ?_ ?_ _) | (with_reducible refine Below.drew ?_) | omega | (simp; done) | (simp; omega))) (hb3.mono (by first | omega | (simp; done) | (simp; omega))); (try have hy3 : w.heap.size < w3.heap.size := by omega); (try have hyb3 : w.heap.size + 1 < w3.heap.size := by omega); (try have hyc3 : w.heap.size + 1 + 1 < w3.heap.size := by omega); (try have hyd3 : w.heap.size + 1 + 1 + 1 < w3.heap.size := by omega); have hc3x := fun (b o : Nat) (h : b < w2.heap.size + 2) => hb3.cell (p := ⟨b, o, none⟩) (by first | omega | (simp; done) | (simp; omega)); have hf3x := fun (b o : Nat) (h : b < w2.heap.size + 2) => hb3.frozen (p := ⟨b, o, none⟩) (by first | omega | (simp; done) | (simp; omega)); simp only [List.nil_append, List.length_nil, Nat.zero_add, HL.out, World.size_alloc] at hown3; have HJ := Lib.hid hown3; obtain ⟨J, jc, rfl, _⟩ := own_shape hown3; clear hown3)))
      go_region_held3 (fun w' => w'.cell? ⟨w.heap.size, 0, none⟩ = some (.slice (some ⟨bk, off, none⟩) ps.length c) ∧ w'.cell? ⟨w2.heap.size + 1, 0, none⟩ = some (.int .u32 ty') ∧ w'.cell? ⟨w2.heap.size + 1, 1, none⟩ = some (.int .i64 fm') ∧
        w'.cell? ⟨w2.heap.size + 1, 2, none⟩ = some (.int .i64 ((data'.length : Int) - (o : Int) - (l : Int))) ∧ w'.cell? ⟨w2.heap.size + 1, 3, none⟩ = some (.slice J l jc)) (((try dsimp only); (repeat' apply And.intro) <;> go_simp)) (fail)
      go_wp2
      have z0 : w3.cell? ⟨w.heap.size + 1 + 1, 0, none⟩ = some (.int .u32 0) := by go_simp
      have z1 : w3.cell? ⟨w.heap.size + 1 + 1, 1, none⟩ = some (.int .i64 0) := by go_simp
      have z2 : w3.cell? ⟨w.heap.size + 1 + 1, 2, none⟩ = some (.int .i64 0) := by go_simp
      have z3 : w3.cell? ⟨w.heap.size + 1 + 1, 3, none⟩ = some (.slice none 0 0) := by go_simp
      have z4 : w3.cell? ⟨w.heap.size + 1, 0, none⟩ = some (.slice none 0 0) := by go_simp
      have g0 : ¬ w2.heap.size + 1 = w.heap.size + 1 := by omega
      have g1 : ¬ w2.heap.size + 1 = w.heap.size + 1 + 1 := by omega
      have g2 : ¬ w2.heap.size = w.heap.size := by omega
      have g3 : ¬ w2.heap.size = w.heap.size + 1 := by omega
      refine bodyPost_ret (v := .tuple #[.agg #[.slice (some ⟨bk, off, none⟩) ps.length c], .agg #[.int .u32 ty', .int .i64 fm', .int .i64 ((data'.length : Int) - (o : Int) - (l : Int)), .slice J l jc], .bool true, .int .i64 0]) (by simp [results, Try.results16, go_sem, z0, z1, z2, z3, z4, g0, g1, g2, g3]) rfl ?_
      exact getPost_same (f := ⟨ty', fm', ((data'.length : Int) - (o : Int) - (l : Int)), D⟩) HV.out (by repeat' (first | (with_reducible exact Below.refl _ _) | (with_reducible assumption) | (with_reducible refine Below.setCell ?_ ?_ _) | (with_reducible refine Below.alloc ?_ ?_ _) | (with_reducible refine Below.drew ?_) | omega | (simp; done) | (simp; omega))) (own_ints (base := w2.heap.size + 1 + 1) (e := 2) (n := l) (by (repeat (first | (with_reducible exact HJ.out) | (with_reducible exact ho5) | (with_reducible refine ownsRow_setCell_below ?_ (by first | omega | (simp; done) | (simp; omega)) _) | (with_reducible refine World.ownsRow.alloc ?_ _) | (with_reducible refine own_drew ?_) | (with_reducible refine own_below ?_ hb4 (Nat.le_refl _)) | (with_reducible refine World.ownsRow.kept ?_ hg5 hne)))) HL.out.symm (fun b _ hb => by omega))
  · have HC := Ints.cut HD.out (lo := o) (hi := data'.length) (by omega) (by omega)
    have hLi : (data'.length : Int) - (o : Int) < (l : Int) := by omega
    rw [if_neg hE] at HC
    have hlen : ((data'.drop o).take (data'.length - o)).length = data'.length - o := by rw [List.length_take, List.length_drop]; omega
    obtain ⟨D, hD⟩ : ∃ D, D = (data'.drop o).take (data'.length - o) := ⟨_, rfl⟩
    rw [← hD] at HC hlen
    have HP : Hid (piece ⟨nm', ty', fm', data'⟩ o l = ⟨ty', fm', 0, D⟩) := by
      show _ = _
      simp only [piece, Int.toNat_natCast]
      have e1 : min l (data'.length - o) = data'.length - o := by omega
      rw [e1, ← hD]
      congr 1
      omega
    rw [HP.out]
    clear HP
    have hDl : D.length ≤ 100000 := by omega
    have HL := Lib.hid hlen
    have HC' := Lib.hid HC
    clear hD hlen HC
    rcases hk' with q1 | ⟨q1, q2⟩
    all_goals
      go_enter Try.func16, Try.ntmps16
      go_wp2_with (first
        | (go_at_call 23; go_must (refine (at_any _ ps n _ (HV.out.below (by repeat' (first | (with_reducible exact Below.refl _ _) | (with_reducible assumption) | (with_reducible refine Below.setCell ?_ ?_ _) | (with_reducible refine Below.alloc ?_ ?_ _) | (with_reducible refine Below.drew ?_) | omega | (simp; done) | (simp; omega))) (Nat.le_refl _))).mono ?_; rw [HI.out]; rintro e w2 ⟨rfl, hb2⟩; have hz2 := hb2.size; (try simp at hz2); have hc2 := fun (b o : Nat) (h : b < w.heap.size + 3) => hb2.cell (p := ⟨b, o, none⟩) (by first | omega | (simp; done) | (simp; omega)); have hf2 := fun (b o : Nat) (h : b < w.heap.size + 3) => hb2.frozen (p := ⟨b, o, none⟩) (by first | omega | (simp; done) | (simp; omega)); have hB2 : Below w.heap.size w w2 := Below.trans (by repeat' (first | (with_reducible exact Below.refl _ _) | (with_reducible assumption) | (with_reducible refine Below.setCell ?_ ?_ _) | (with_reducible refine Below.alloc ?_ ?_ _) | (with_reducible refine Below.drew ?_) | omega | (simp; done) | (simp; omega))) (hb2.mono (by first | omega | (simp; done) | (simp; omega))); (try have hy2 : w.heap.size < w2.heap.size := by omega); (try have hyb2 : w.heap.size + 1 < w2.heap.size := by omega); (try have hyc2 : w.heap.size + 1 + 1 < w2.heap.size := by omega); (try have hyd2 : w.heap.size + 1 + 1 + 1 < w2.heap.size := by omega); have d0 := (hB2.cell (p := ⟨bk, off + i * 4, none⟩) hbk).trans c0; have d1 := (hB2.cell (p := ⟨bk, off + i * 4 + 1, none⟩) hbk).trans c1; have d2 := (hB2.cell (p := ⟨bk, off + i * 4 + 2, none⟩) hbk).trans c2; have d3 := (hB2.cell (p := ⟨bk, off + i * 4 + 3, none⟩) hbk).trans c3))
        | (go_at_call 24; go_must (refine (join_any _ _ [] D _ (Ints.zero_ (F := F)) (Ints.below (w := w) (F := F) (by first | exact HC'.out | simpa using HC'.out | simpa [show data'.length - o = 0 by omega] using HC'.out) (by repeat' (first | (with_reducible exact Below.refl _ _) | (with_reducible assumption) | (with_reducible refine Below.setCell ?_ ?_ _) | (with_reducible refine Below.alloc ?_ ?_ _) | (with_reducible refine Below.drew ?_) | omega | (simp; done) | (simp; omega))) (Nat.le_refl _)) (by simp; omega)).mono ?_; rintro e w3 ⟨jv, rfl, hb3, hown3⟩; have hz3 := hb3.size; (try simp at hz3); have hc3 := fun (b o : Nat) (h : b < w.heap.size + 3) => hb3.cell (p := ⟨b, o, none⟩) (by first | omega | (simp; done) | (simp; omega)); have hf3 := fun (b o : Nat) (h : b < w.heap.size + 3) => hb3.frozen (p := ⟨b, o, none⟩) (by first | omega | (simp; done) | (simp; omega)); have hB3 : Below w.heap.size w w3 := Below.trans (by repeat' (first | (with_reducible exact Below.refl _ _) | (with_reducible assumption) | (with_reducible refine Below.setCell ?_ ?_ _) | (with_reducible refine Below.alloc ?_ ?_ _) | (with_reducible refine Below.drew ?_) | omega | (simp; done) | (simp; omega))) (hb3.mono (by first | omega | (simp; done) | (simp; omega))); (try have hy3 : w.heap.size < w3.heap.size := by omega); (try have hyb3 : w.heap.size + 1 < w3.heap.size := by omega); (try have hyc3 : w.heap.size + 1 + 1 < w3.heap.size := by omega); (try have hyd3 : w.heap.size + 1 + 1 + 1 < w3.heap.size := by omega); have hc3x := fun (b o : Nat) (h : b < w2.heap.size + 2) => hb3.cell (p := ⟨b, o, none⟩) (by first | omega | (simp; done) | (simp; omega)); have hf3x := fun (b o : Nat) (h : b < w2.heap.size + 2) => hb3.frozen (p := ⟨b, o, none⟩) (by first | omega | (simp; done) | (simp; omega)); simp only [List.nil_append, List.length_nil, Nat.zero_add, HL.out, World.size_alloc] at hown3; have HJ := Lib.hid hown3; obtain ⟨J, jc, rfl, _⟩ := own_shape hown3; clear hown3)))
      go_region_held3 (fun w' => w'.cell? ⟨w.heap.size, 0, none⟩ = some (.slice (some ⟨bk, off, none⟩) ps.length c) ∧ w'.cell? ⟨w2.heap.size + 1, 0, none⟩ = some (.int .u32 ty') ∧ w'.cell? ⟨w2.heap.size + 1, 1, none⟩ = some (.int .i64 fm') ∧
        w'.cell? ⟨w2.heap.size + 1, 2, none⟩ = some (.int .i64 0) ∧ w'.cell? ⟨w2.heap.size + 1, 3, none⟩ = some (.slice J (data'.length - o) jc)) (((try dsimp only); (repeat' apply And.intro) <;> go_simp)) (fail)
      go_wp2
      have z0 : w3.cell? ⟨w.heap.size + 1 + 1, 0, none⟩ = some (.int .u32 0) := by go_simp
      have z1 : w3.cell? ⟨w.heap.size + 1 + 1, 1, none⟩ = some (.int .i64 0) := by go_simp
      have z2 : w3.cell? ⟨w.heap.size + 1 + 1, 2, none⟩ = some (.int .i64 0) := by go_simp
      have z3 : w3.cell? ⟨w.heap.size + 1 + 1, 3, none⟩ = some (.slice none 0 0) := by go_simp
      have z4 : w3.cell? ⟨w.heap.size + 1, 0, none⟩ = some (.slice none 0 0) := by go_simp
      have g0 : ¬ w2.heap.size + 1 = w.heap.size + 1 := by omega
      have g1 : ¬ w2.heap.size + 1 = w.heap.size + 1 + 1 := by omega
      have g2 : ¬ w2.heap.size = w.heap.size := by omega
      have g3 : ¬ w2.heap.size = w.heap.size + 1 := by omega
      refine bodyPost_ret (v := .tuple #[.agg #[.slice (some ⟨bk, off, none⟩) ps.length c], .agg #[.int .u32 ty', .int .i64 fm', .int .i64 0, .slice J (data'.length - o) jc], .bool true, .int .i64 0]) (by simp [results, Try.results16, go_sem, z0, z1, z2, z3, z4, g0, g1, g2, g3]) rfl ?_
      exact getPost_same (f := ⟨ty', fm', 0, D⟩) HV.out (by repeat' (first | (with_reducible exact Below.refl _ _) | (with_reducible assumption) | (with_reducible refine Below.setCell ?_ ?_ _) | (with_reducible refine Below.alloc ?_ ?_ _) | (with_reducible refine Below.drew ?_) | omega | (simp; done) | (simp; omega))) (own_ints (base := w2.heap.size + 1 + 1) (e := 2) (n := (data'.length - o)) (by (repeat (first | (with_reducible exact HJ.out) | (with_reducible exact ho5) | (with_reducible refine ownsRow_setCell_below ?_ (by first | omega | (simp; done) | (simp; omega)) _) | (with_reducible refine World.ownsRow.alloc ?_ _) | (with_reducible refine own_drew ?_) | (with_reducible refine own_below ?_ hb4 (Nat.le_refl _)) | (with_reducible refine World.ownsRow.kept ?_ hg5 hne)))) HL.out.symm (fun b _ hb => by omega))
end Go.Proofs.Ytlnpelohdamklaa
