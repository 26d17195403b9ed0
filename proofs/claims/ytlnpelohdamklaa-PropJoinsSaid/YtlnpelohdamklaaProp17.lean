import Derived.Test.YtlnpelohdamklaaProp16
namespace Go.Proofs.Ytlnpelohdamklaa
open Go.RowKit
set_option linter.unusedVariables false
set_option linter.unusedSimpArgs false
theorem get_any0 {F : Foot} (v : Value) (ps : List PR) (n k off len : Int) (w : World) (hv : Props F w v ps) (h1 : off ≤ 9223372036854775807) (h2 : len ≤ 9223372036854775807) (hall : ∀ q ∈ ps, q.data.length ≤ 100000) :
    Calls Try.prog 16 #[.agg #[v], .int .u32 n, .int .u32 k, .int .i64 off, .int .i64 len, .bool false] w (GetPost F w (getF ps n k off len false)) := by
  by_cases hr : off < 0 ∨ len < 0
  · rw [show getF ps n k off len false = (ps, noFD, false, 1) by simp [getF, hr]]
    exact get_range v ps n k off len false w hv hr
  have hr1 : ¬ off < 0 := fun h => hr (.inl h)
  have hr2 : ¬ len < 0 := fun h => hr (.inr h)
  cases hi : ps.findIdx? (fun q => q.name == n) with
  | none =>
    rw [show getF ps n k off len false = (ps, noFD, false, 0) by simp only [getF, if_neg hr, hi]]
    exact get_none v ps n k off len false w hv hr1 hr2 hi
  | some i =>
    have hil : i < ps.length := by rw [List.findIdx?_eq_some_iff_getElem] at hi; exact hi.1
    have hp : ps[i]? = some ps[i] := List.getElem?_eq_getElem hil
    by_cases hk : k ≠ 0 ∧ k ≠ ps[i].typ
    · rw [show getF ps n k off len false = (ps, ⟨ps[i].typ, ps[i].fmt, ps[i].data.length, []⟩, true, 0) by simp only [getF, if_neg hr, hi, hp, if_pos hk]]
      exact get_kind v ps n k off len false w i ps[i] hv hr1 hr2 hi hp hk
    have hk' : k = 0 ∨ k = ps[i].typ := by
      by_cases h0 : k = 0
      · exact .inl h0
      · right
        by_cases h : k = ps[i].typ
        · exact h
        · exact absurd ⟨h0, h⟩ hk
    by_cases ho : (ps[i].data.length : Int) < off
    · rw [show getF ps n k off len false = (ps, noFD, false, 22) by simp only [getF, if_neg hr, hi, hp, if_neg hk, if_pos ho]]
      exact get_val v ps n k off len false w i ps[i] hv hr1 hr2 hi hp hk' ho
    rw [show getF ps n k off len false = (ps, piece ps[i] off len, true, 0) by simp [getF, if_neg hr, hi, hp, if_neg hk, if_neg ho]]
    obtain ⟨o, rfl⟩ := Int.eq_ofNat_of_zero_le (show 0 ≤ off by omega)
    obtain ⟨l, rfl⟩ := Int.eq_ofNat_of_zero_le (show 0 ≤ len by omega)
    exact get_piece v ps n k o l w i ps[i] hv hi hp hk' (by omega) (by omega) (hall _ (List.getElem_mem hil))
end Go.Proofs.Ytlnpelohdamklaa
