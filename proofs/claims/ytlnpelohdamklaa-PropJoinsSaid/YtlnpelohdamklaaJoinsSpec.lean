import Derived.Test.YtlnpelohdamklaaProp10
namespace Go.Proofs.Ytlnpelohdamklaa
open Go.RowKit
set_option linter.unusedVariables false
set_option linter.unusedSimpArgs false
/-- All parts together, the next one behind or ahead. -/
def wantF (ahead : Bool) (l : List (List Int)) : List Int := l.foldl (fun acc d => if ahead then d ++ acc else acc ++ d) []
theorem wantF_snoc (ahead : Bool) (l : List (List Int)) (d : List Int) : wantF ahead (l ++ [d]) = if ahead then d ++ wantF ahead l else wantF ahead l ++ d := by
  simp [wantF, List.foldl_append]
def joinPs (ahead : Bool) (l : List (List Int)) : List PR := if l = [] then [] else [⟨9, 5, 16, wantF ahead l⟩]
def R16 (F : Foot) (w : World) (cs : List Value) (xs : List Int) : Prop := (∀ x ∈ xs, 0 ≤ x ∧ x ≤ 65535) ∧ ∃ u, cs = [u] ∧ Ints F w .u16 u xs
theorem R16.mono : Mono R16 := fun _ _ _ _ _ ⟨h0, u, h1, h2⟩ hk => ⟨h0, u, h1, h2.agree hk⟩
theorem wantF_len (ahead : Bool) (l : List (List Int)) (h : ∀ d ∈ l, d.length ≤ 50) : (wantF ahead l).length ≤ 50 * l.length := by
  have gen : ∀ (l : List (List Int)) (acc : List Int), (∀ d ∈ l, d.length ≤ 50) → (l.foldl (fun acc d => if ahead then d ++ acc else acc ++ d) acc).length ≤ acc.length + 50 * l.length := by
    intro l
    induction l with
    | nil => intro acc _; simp
    | cons d l ih =>
      intro acc h
      have h1 := ih (if ahead then d ++ acc else acc ++ d) (fun d hd => h d (by simp [hd]))
      have h2 := h d (by simp)
      have h3 : (if ahead then d ++ acc else acc ++ d).length = acc.length + d.length := by cases ahead <;> simp [Nat.add_comm]
      rw [List.foldl_cons, List.length_cons]
      omega
  have := gen l [] h
  simpa [wantF] using this
theorem chk_data (d : List Int) (h : ∀ x ∈ d, 0 ≤ x ∧ x ≤ 65535) (hl : d.length ≤ 50) : chkF ⟨9, 5, 16, d⟩ = 0 := by
  have hb : d.any (badV (mostF 16)) = false := by
    rw [List.any_eq_false]
    intro x hx
    have := h x hx
    simp [badV, mostF]; omega
  have hm : ¬ (mostF 16 < 0) := by simp [mostF]
  have hl' : ¬ 16384 < d.length := by omega
  simp only [chkF, hb]
  simp [hm, hl']
theorem change_join (ahead : Bool) (l : List (List Int)) (d : List Int) (h : ∀ x ∈ d, 0 ≤ x ∧ x ≤ 65535) (hd : d.length ≤ 50) (hl : ∀ d ∈ l, d.length ≤ 50) (hn : l.length ≤ 20) :
    changeF (joinPs ahead l) (if ahead then 1 else 2) ⟨9, 5, 16, d⟩ = (joinPs ahead (l ++ [d]), 0) := by
  have hw := wantF_len ahead l hl
  unfold changeF
  rw [if_neg (by cases ahead <;> simp), if_neg (by simp [chk_data d h hd])]
  by_cases hE : l = []
  · subst hE
    cases ahead <;> simp [joinPs, wantF]
  · simp only [joinPs, if_neg hE]
    have hlong : ¬ 16384 < (wantF ahead l).length + d.length := by omega
    cases ahead <;> simp [List.findIdx?_cons, hlong, newData, wantF_snoc]
theorem joinPs_ok (ahead : Bool) (l : List (List Int)) (hl : ∀ d ∈ l, d.length ≤ 50) (hn : l.length ≤ 20) : (∀ q ∈ joinPs ahead l, q.data.length ≤ 100000) ∧ (joinPs ahead l).length ≤ 100000 := by
  have hw := wantF_len ahead l hl
  unfold joinPs
  split
  · simp
  · simp; omega
theorem find_join (ahead : Bool) (l : List (List Int)) : findF (joinPs ahead l) 9 = if l = [] then (noPR, false) else (⟨9, 5, 16, wantF ahead l⟩, true) := by
  by_cases hE : l = []
  · simp [joinPs, findF, hE]
  · simp [joinPs, findF, hE]
end Go.Proofs.Ytlnpelohdamklaa
