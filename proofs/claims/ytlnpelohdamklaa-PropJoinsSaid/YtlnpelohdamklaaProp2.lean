import Derived.Test.YtlnpelohdamklaaProg
import Derived.Test.YtlnpelohdamklaaProp1
import Derived.Outline
namespace Go.Proofs.Ytlnpelohdamklaa
open Go.RowKit
set_option linter.unusedVariables false
set_option linter.unusedSimpArgs false

/-- Where a name stands; -1: nowhere. -/
def atF (ps : List PR) (n : Int) : Int := match ps.findIdx? (fun p => p.name == n) with | some i => i | none => -1

theorem findIdx_snoc_no {ps : List PR} {n : Int} {k : Nat} {p : PR} (HT : Hid ((ps.take k).findIdx? (fun p => p.name == n) = none)) (HX : Hid (ps[k]? = some p)) (hq : (p.name == n) = false) :
    Hid ((ps.take (k + 1)).findIdx? (fun p => p.name == n) = none) := by
  show _ = _
  have h := HT.out
  rw [List.findIdx?_eq_none_iff] at h ⊢
  rw [take_snoc HX]
  intro x hx
  rw [List.mem_append] at hx
  rcases hx with hx | hx
  · exact h x hx
  · simp at hx; subst hx; exact hq
theorem atF_no {ps : List PR} {n : Int} (HT : Hid ((ps.take ps.length).findIdx? (fun p => p.name == n) = none)) : atF ps n = -1 := by
  have h := HT.out
  rw [List.take_length] at h
  simp [atF, h]
theorem atF_yes {ps : List PR} {n : Int} {k : Nat} {p : PR} (HT : Hid ((ps.take k).findIdx? (fun p => p.name == n) = none)) (HX : Hid (ps[k]? = some p)) (hq : (p.name == n) = true) :
    atF ps n = k := by
  have h := HT.out
  have hk : k < ps.length := (List.getElem?_eq_some_iff.1 HX.out).1
  have hx : ps[k] = p := (List.getElem?_eq_some_iff.1 HX.out).2
  have : ps.findIdx? (fun p => p.name == n) = some k := by
    rw [List.findIdx?_eq_some_iff_getElem]
    refine ⟨hk, by rw [hx]; exact hq, fun j hj => ?_⟩
    rw [List.findIdx?_eq_none_iff] at h
    have := h ps[j] (by rw [List.mem_take_iff_getElem]; exact ⟨j, by omega, rfl⟩)
    simpa using this
  simp [atF, this]
set_option maxHeartbeats 400000 in
theorem idx_any {F : Foot} (v : Value) (ps : List PR) (n : Int) (b : Nat) (w : World) (hv : Props F w v ps) (hb : b < w.heap.size) (hc : w.cell? ⟨b, 0, none⟩ = some (.int .u32 n)) :
    Calls Try.prog 35 #[v, .func (.func 36) #[] #[.pointer (some ⟨b, 0, none⟩)]] w fun e w' => e = .returned (.int .i64 (atF ps n)) ∧ Below w.heap.size w w' := by
  obtain ⟨A, c, rfl, h1, h2, _, h4⟩ := hv.open_
  clear hv
  go_enter Try.func35, Try.ntmps35
  go_wp2_with fail
  go_loopw [5, 8] (fun _ i wr => ∃ k : Nat, k ≤ ps.length ∧ i = .int .i64 k ∧ Hid ((ps.take k).findIdx? (fun p => p.name == n) = none) ∧ Below w.heap.size w wr) (fun _ i _ => ps.length - (intOf i).toNat)
  case atStart => exact ⟨0, by omega, rfl, (show _ = _ from rfl), Below.refl _ _⟩
  case round =>
    obtain ⟨k, hk, rfl, HT, hbel⟩ := hrel
    by_cases hlt : k < ps.length
    · obtain ⟨bk, off, nm, ty, fm, data, dv, rfl, hb1, hok, hdv, HX, c0, c1, c2, c3⟩ := h4 k hlt
      have c0' := (hbel.cell (p := ⟨bk, off + k * 4, none⟩) hb1).trans c0
      have c1' := (hbel.cell (p := ⟨bk, off + k * 4 + 1, none⟩) hb1).trans c1
      have c2' := (hbel.cell (p := ⟨bk, off + k * 4 + 2, none⟩) hb1).trans c2
      have c3' := (hbel.cell (p := ⟨bk, off + k * 4 + 3, none⟩) hb1).trans c3
      have hcr := (hbel.cell (p := ⟨b, 0, none⟩) hb).trans hc
      have hbr : b < wr.heap.size := by have := hbel.size; omega
      clear c0 c1 c2 c3 h4 hc
      go_wp2_with fail
      refine (atc_any ⟨nm, ty, fm, data⟩ dv n b _ hbr hcr).mono ?_
      rintro e w1 ⟨rfl, hb2⟩
      have hbel1 := hbel.trans (hb2.mono hbel.size)
      cases hq : (nm == n)
      · go_wp2
        go_roundw
        case rel => exact ⟨k + 1, by omega, by go_num, findIdx_snoc_no HT HX hq, hbel1⟩
        case measure => simp [intOf]; omega
      · go_wp2
        go_ret
        exact ⟨by rw [atF_yes HT HX hq]; rfl, hbel1⟩
    · obtain rfl : k = ps.length := by omega
      go_wp2
      go_ret
      exact ⟨by rw [atF_no HT]; rfl, hbel⟩
end Go.Proofs.Ytlnpelohdamklaa
