import Derived.Test.YtlnpelohdamklaaProp13
import Derived.Deep.RegionHeld3
import Derived.Outline
namespace Go.Proofs.Ytlnpelohdamklaa
open Go.RowKit
set_option linter.unusedVariables false
set_option linter.unusedSimpArgs false

set_option maxRecDepth 100000 in
set_option maxHeartbeats 1000000 in
theorem get_val {F : Foot} (v : Value) (ps : List PR) (n k off' len : Int) (rm : Bool) (w : World) (i : Nat) (p : PR) (hv : Props F w v ps) (h1 : ¬ off' < 0) (h2 : ¬ len < 0) (hi : ps.findIdx? (fun q => q.name == n) = some i) (hp : ps[i]? = some p)
    (hk : k = 0 ∨ k = p.typ) (ho : (p.data.length : Int) < off') :
    Calls Try.prog 16 #[.agg #[v], .int .u32 n, .int .u32 k, .int .i64 off', .int .i64 len, .bool rm] w (GetPost F w (ps, noFD, false, 22)) := by
  have hil : i < ps.length := (List.getElem?_eq_some_iff.1 hp).1
  obtain ⟨A, c, rfl, k1, k2, _, k4⟩ := Props.open_ hv
  obtain ⟨bk, off, nm', ty', fm', data', dv', rfl, hbk, hok', hdv', HX, c0, c1, c2, c3⟩ := k4 i hil
  obtain rfl : p = ⟨nm', ty', fm', data'⟩ := by have := HX.out; rw [hp] at this; injection this
  obtain ⟨E, ec, rfl, _⟩ := hdv'.shape
  have HV := Lib.hid hv
  have HI := Lib.hid (atF_some hi)
  have hil' : (i : Int) < (ps.length : Int) := by omega
  clear hv hi k4 hp hdv'
  simp only at hk ho
  have hk' : (k != 0) = false ∨ (k != 0) = true ∧ (k != ty') = false := by
    by_cases h0 : k = 0
    · left; simp [h0]
    · right; exact ⟨by simpa using h0, by simpa using hk.resolve_left h0⟩
  clear hk
  rcases hk' with q1 | ⟨q1, q2⟩
  all_goals
    go_enter Try.func16, Try.ntmps16
    go_wp2_with (go_at_call 23; go_must (refine (at_any _ ps n _ (HV.out.below (by repeat' (first | (with_reducible exact Below.refl _ _) | (with_reducible assumption) | (with_reducible refine Below.setCell ?_ ?_ _) | (with_reducible refine Below.alloc ?_ ?_ _) | (with_reducible refine Below.drew ?_) | omega | (simp; done) | (simp; omega))) (Nat.le_refl _))).mono ?_; rw [HI.out]; rintro e w2 ⟨rfl, hb2⟩; have hz2 := hb2.size; (try simp at hz2); have hc2 := fun (b o : Nat) (h : b < w.heap.size + 3) => hb2.cell (p := ⟨b, o, none⟩) (by first | omega | (simp; done) | (simp; omega)); have hf2 := fun (b o : Nat) (h : b < w.heap.size + 3) => hb2.frozen (p := ⟨b, o, none⟩) (by first | omega | (simp; done) | (simp; omega)); have hB2 : Below w.heap.size w w2 := Below.trans (by repeat' (first | (with_reducible exact Below.refl _ _) | (with_reducible assumption) | (with_reducible refine Below.setCell ?_ ?_ _) | (with_reducible refine Below.alloc ?_ ?_ _) | (with_reducible refine Below.drew ?_) | omega | (simp; done) | (simp; omega))) (hb2.mono (by first | omega | (simp; done) | (simp; omega))); (try have hy2 : w.heap.size < w2.heap.size := by omega); (try have hyb2 : w.heap.size + 1 < w2.heap.size := by omega); (try have hyc2 : w.heap.size + 1 + 1 < w2.heap.size := by omega); (try have hyd2 : w.heap.size + 1 + 1 + 1 < w2.heap.size := by omega); have d0 := (hB2.cell (p := ⟨bk, off + i * 4, none⟩) hbk).trans c0; have d1 := (hB2.cell (p := ⟨bk, off + i * 4 + 1, none⟩) hbk).trans c1; have d2 := (hB2.cell (p := ⟨bk, off + i * 4 + 2, none⟩) hbk).trans c2; have d3 := (hB2.cell (p := ⟨bk, off + i * 4 + 3, none⟩) hbk).trans c3))
    have z0 : w2.cell? ⟨w.heap.size + 1 + 1, 0, none⟩ = some (.int .u32 0) := by go_simp
    have z1 : w2.cell? ⟨w.heap.size + 1 + 1, 1, none⟩ = some (.int .i64 0) := by go_simp
    have z2 : w2.cell? ⟨w.heap.size + 1 + 1, 2, none⟩ = some (.int .i64 0) := by go_simp
    have z3 : w2.cell? ⟨w.heap.size + 1 + 1, 3, none⟩ = some (.slice none 0 0) := by go_simp
    have z4 : w2.cell? ⟨w.heap.size + 1, 0, none⟩ = some (.slice none 0 0) := by go_simp
    clear hc2
    refine bodyPost_ret (v := .tuple #[.agg #[.slice (some ⟨bk, off, none⟩) ps.length c], .agg #[.int .u32 0, .int .i64 0, .int .i64 0, .slice none 0 0], .bool false, .int .i64 22]) (by simp [results, Try.results16, go_sem, z0, z1, z2, z3, z4, hy2, hyb2, hyc2]) rfl ?_
    exact getPost_same (f := noFD) HV.out (by repeat' (first | (with_reducible exact Below.refl _ _) | (with_reducible assumption) | (with_reducible refine Below.setCell ?_ ?_ _) | (with_reducible refine Below.alloc ?_ ?_ _) | (with_reducible refine Below.drew ?_) | omega | (simp; done) | (simp; omega))) Ints.zero_
end Go.Proofs.Ytlnpelohdamklaa
