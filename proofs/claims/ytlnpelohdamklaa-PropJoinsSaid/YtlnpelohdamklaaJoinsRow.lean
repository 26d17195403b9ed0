/- 'glazierlaw10.PropJoins' answers true for every input and leaves what came in as it was. No condition. -/
import Derived.Test.YtlnpelohdamklaaRows
import Derived.Test.YtlnpelohdamklaaJoins
import Derived.ProofKit
import Derived.OpenShut
import Derived.ChangeOld
import Derived.Deep.Matrix
namespace Go.Proofs.Ytlnpelohdamklaa.joinsDone
open Go.ChangeShapes Go.WideShapes Go.ChangeAt Go.RowKit Go.Deep
set_option linter.unusedVariables false
set_option linter.unusedSimpArgs false

theorem own : ownKnob Try.prog.godebug = none := by kernel_rfl
theorem laidOut : laidOutB Try.prog = true := by kernel_rfl

theorem wf_u16 {n : Int} (h : (Lit.int .u16 n).wf = true) : 0 ≤ n ∧ n ≤ 65535 := by
  simp [Lit.wf, IntKind.min, IntKind.max, IntKind.signed, IntKind.bits] at h
  omega
/-- A slice of slices of numbers that came in, in the walk's words. -/
theorem rows_in {W : World} {a : Addr} {len cap : Nat} {A : Nat → Option Addr} {L C : Nat → Nat} {Z : Nat → List Int} (hl : len ≤ cap) (hm : cap ≤ maxLen)
    (h : ∀ r, r < cap → W.cell? (a.add r) = some (.slice (A r) (L r) (C r)) ∧ L r ≤ C r ∧ C r ≤ maxLen ∧ (Z r).length = C r ∧ (∀ n ∈ Z r, (Lit.int .u16 n).wf = true) ∧ (A r = none → C r = 0) ∧
      ∀ a', A r = some a' → 0 ≤ a'.block ∧ ∀ c, c < C r → W.cell? (a'.add c) = some (.int .u16 ((Z r).getD c 0))) :
    SlOf R16 (fun _ => True) W 1 (.slice (some a) len cap) ((List.range len).map fun r => (Z r).take (L r)) := by
  refine ⟨(List.range len).map fun r => [.slice (A r) (L r) (C r)], by simp, fun i cs x hc hx => ?_, ?_⟩
  · simp only [List.getElem?_map, Option.map_eq_some_iff] at hc hx
    obtain ⟨r, hr, rfl⟩ := hc
    obtain ⟨r', hr', rfl⟩ := hx
    rw [hr] at hr'
    injection hr' with hr'
    subst hr'
    have hri : r < len := by
      have := List.mem_of_getElem? hr
      simpa using this
    obtain ⟨h1, h2, h3, h4, h5, h6, h7⟩ := h r (by omega)
    have hlen : ((Z r).take (L r)).length = L r := by rw [List.length_take, h4]; omega
    refine ⟨rfl, fun x hx => wf_u16 (h5 x (List.mem_of_mem_take hx)), _, rfl, ?_⟩
    unfold Ints
    rw [hlen]
    refine ⟨_, _, rfl, h2, h3, by rw [List.length_map, hlen]; omega, h6, fun hn => ?_⟩
    cases hA : A r with
    | none => have := h6 hA; omega
    | some a' =>
      obtain ⟨_, h8⟩ := h7 a' hA
      have hb := World.block_lt_of_cell? W _ (h8 0 (by omega))
      rw [block_of_add] at hb
      refine ⟨a', rfl, hb, trivial, fun j u hu => ?_⟩
      rw [List.getElem?_map, List.getElem?_take] at hu
      split at hu
      · rename_i hj
        rw [h8 j (by omega)]
        rw [List.getElem?_eq_getElem (by omega : j < (Z r).length)] at hu
        simp at hu
        subst hu
        rw [List.getD_eq_getElem?_getD, List.getElem?_eq_getElem (by omega : j < (Z r).length)]
        rfl
      · cases hu
  · simp only [List.length_map, List.length_range]
    have hf : ((List.range len).map fun r => [Value.slice (A r) (L r) (C r)]).flatten = (List.range len).map fun r => Value.slice (A r) (L r) (C r) := by
      generalize List.range len = l
      induction l with
      | nil => rfl
      | cons x l ih => simp [ih]
    rw [hf]
    refine ⟨_, _, rfl, hl, hm, by simp, fun h => (by cases h), fun hn => ⟨a, rfl, ?_, trivial, fun j u hu => ?_⟩⟩
    · have hb := World.block_lt_of_cell? W _ (h 0 (by omega)).1
      rwa [block_of_add] at hb
    · rw [List.getElem?_map, Option.map_eq_some_iff] at hu
      obtain ⟨r, hr, rfl⟩ := hu
      have hj : j < len := by have := (List.getElem?_eq_some_iff.1 hr).1; simpa using this
      rw [List.getElem?_range hj] at hr
      injection hr with hr
      subst hr
      exact (h j (by omega)).1

set_option maxRecDepth 100000 in
theorem lifted (os : Os) (started : os.Started) (H : Type) (enc : TypeId × Value → H) :
    ReturnsInHanded {} Try.checked os 3 .any (Rows.propJoinsSpec.pre6 enc Try.prog Try.f3 Rows.propJoinsRow.domain false) (Rows.propJoinsSpec.post enc Try.prog Try.f3 false true false false) := by
  refine returnsInHanded_of_change (C := Try.checked) own started (by kernel_rfl) Try.func3
    (ChangeSpec.witness6 (enc := enc) (C := Try.checked) false ⟨#[], #[.slice none 0 0, .bool false], []⟩ 8 (by kernel_rfl) (by kernel_rfl) (by kernel_rfl) (by kernel_rfl)) ?_
  intro W base args ds gs before hval0 hW hcnd _
  have hval : ∀ (j : Nat) t v, Try.f3.params[j]? = some t → args[j]? = some v → Value.okWide Try.prog W .any base t v := hval0
  have hW' := hW
  obtain ⟨p, q, hA0, hV, rfl, hfz, hnd⟩ := hW
  have hA : DataW.TrodAll enc Try.prog W 0 (fun _ => true) true Try.f3.params.toList args.toList ds p := hA0
  rw [Try.params3] at hA hval
  obtain ⟨v0, vs0, d0, ds0, p0, q0, hargs, rfl, rfl, h0, r0⟩ := trodAll_cons hA
  obtain ⟨v1, vs1, d1, ds1, p1, q1, rfl, rfl, rfl, h1, r1⟩ := trodAll_cons r0
  obtain ⟨rfl, rfl, rfl⟩ := trodAll_nil r1
  obtain rfl : args = #[v0, v1] := by cases args; simp_all
  obtain ⟨rfl, rfl⟩ := trodVars_none hV
  have k0 := h0
  have lt0 : ∀ x ∈ p0, x.block < W.heap.size := by obtain ⟨m, hm⟩ := k0; exact DataW.trod_lt m _ _ _ hm
  obtain ⟨a0, len0, cap0, rfl⟩ := okWide_slice Try.underlying22 (hval 0 22 v0 rfl rfl)
  obtain ⟨b1, rfl, rfl, rfl⟩ := open_bool Try.underlying4 (hval 1 4 v1 rfl rfl) h1
  obtain ⟨xss, w0⟩ : ∃ xss, SlOf R16 (fun _ => True) W 1 (.slice a0 len0 cap0) xss := by
    obtain ⟨fuel, hf⟩ := h0
    rcases open_int_rows Try.underlying22 Try.underlying28 Try.underlying29 (by kernel_rfl) (by kernel_rfl) hf with ⟨hcs, _⟩ | ⟨a, len, cap, A, L, C, Z, hcs, _, hl, hm, _, hx⟩
    · simp [Value.cells] at hcs
      obtain ⟨rfl, rfl, rfl⟩ := hcs
      exact ⟨[], SlOf.nil_⟩
    · simp [Value.cells] at hcs
      obtain ⟨rfl, rfl, rfl⟩ := hcs
      exact ⟨_, rows_in hl hm hx⟩
  clear hA0 hval0
  refine (joins_walk _ xss b1 W w0).mono fun e W' ⟨he, bel⟩ => ?_
  subst he
  exact ⟨_, rfl, _, _, _, [], _, [], hW', trodAll_mk1 (shut_bool Try.underlying4 _), (trodAll_cons_mk (Below.trod laidOut (by kernel_rfl) (of_decide_eq_true (by kernel_rfl)) k0 bel lt0) (trodAll_cons_mk (shut_bool Try.underlying4 b1) trodAll_mk0)), rfl, bel.frame _, fun h => by cases h⟩

theorem over : Rows.propJoinsRow.holds Try.pinned (OpenSpec.ofChange Rows.propJoinsSpec) :=
  OpenClaim.holds_of_wide 3 Try.f3 rfl rfl rfl rfl rfl rfl rfl ⟨rfl, rfl, rfl, rfl, rfl⟩ rfl rfl rfl rfl rfl (by kernel_rfl) Try.func3 (by kernel_rfl)
    (of_decide_eq_true (by kernel_rfl)) (by unfold Func.isWrapper; first | (rw [if_pos (by decide +kernel)]; kernel_rfl) | (rw [if_neg (by decide +kernel)]; exact ⟨rfl, rfl⟩))
    (fun os started H enc _ => lifted os started H enc)

/-- The statement. -/
theorem proved : Rows.PropJoinsSaid := over
#print axioms proved
end Go.Proofs.Ytlnpelohdamklaa.joinsDone
