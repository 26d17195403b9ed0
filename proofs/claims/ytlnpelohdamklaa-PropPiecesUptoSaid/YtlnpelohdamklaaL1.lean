import Derived.Test.YtlnpelohdamklaaP3
namespace Go.Proofs.Ytlnpelohdamklaa
open Go Go.VM
set_option linter.unusedVariables false
set_option linter.unusedSimpArgs false
/-! What is done to one name leaves the others. -/
def look (ps : List PR) (n : Int) : Option PR := ps.find? (fun p => decide (p.name = n))
theorem look_idx (ps : List PR) (n : Int) : look ps n = (idxF ps n).bind (ps[·]?) := by
  unfold look idxF
  induction ps with
  | nil => rfl
  | cons p ps ih =>
    rw [List.find?_cons, List.findIdx?_cons]
    by_cases h : p.name = n
    · simp [h]
    · simp only [h, decide_false, Bool.false_eq_true, if_false]
      rw [ih]
      cases ps.findIdx? (fun p => decide (p.name = n)) <;> simp
theorem look_some (ps : List PR) (n : Int) : (idxF ps n).isSome = (look ps n).isSome := by
  rw [look_idx]
  cases e : idxF ps n with
  | none => rfl
  | some i => have := idxF_lt e; simp [List.getElem?_eq_getElem this]
theorem findP_look (ps : List PR) (n : Int) : findP ps n = (look ps n).getD PR.zero := by
  rw [look_idx]
  unfold findP
  cases e : idxF ps n with
  | none => rfl
  | some i => have := idxF_lt e; simp [List.getD, List.getElem?_eq_getElem this]
theorem look_append (a b : List PR) (n : Int) : look (a ++ b) n = (look a n).or (look b n) := by unfold look; exact List.find?_append
theorem look_split {ps : List PR} {i : Nat} (hi : i < ps.length) (n : Int) (hn : ps[i].name ≠ n) : look ps n = (look (ps.take i) n).or (look (ps.drop (i + 1)) n) := by
  conv => lhs; rw [← List.take_append_drop i ps, List.drop_eq_getElem_cons hi, look_append]
  congr 1
  unfold look
  rw [List.find?_cons]
  simp [hn]
theorem look_set {ps : List PR} {i : Nat} (hi : i < ps.length) (n : Int) (q : PR) (hq : q.name ≠ n) (hn : ps[i].name ≠ n) : look (ps.set i q) n = look ps n := by
  rw [List.set_eq_take_append_cons_drop, if_pos hi, look_append, look_split hi n hn]
  congr 1
  unfold look
  rw [List.find?_cons]
  simp [hq]
theorem look_erase {ps : List PR} {i : Nat} (hi : i < ps.length) (n : Int) (hn : ps[i].name ≠ n) : look (ps.eraseIdx i) n = look ps n := by
  rw [List.eraseIdx_eq_take_drop_succ, look_append, look_split hi n hn]
theorem idxF_name {ps : List PR} {n : Int} {i : Nat} (e : idxF ps n = some i) : ∃ h : i < ps.length, ps[i].name = n := by
  have hi := idxF_lt e
  refine ⟨hi, ?_⟩
  unfold idxF at e
  rw [List.findIdx?_eq_some_iff_getElem] at e
  obtain ⟨_, h, _⟩ := e
  simpa using h
theorem chg_other {ps : List PR} {mode : Int} {p : PR} {n : Int} (hn : n ≠ p.name) : look (chgF ps mode p).1 n = look ps n := by
  unfold chgF
  split
  · rfl
  split
  · rfl
  split
  · split
    · rfl
    · rw [look_append]
      have : look [p] n = none := by unfold look; simp [Ne.symm hn]
      rw [this]; cases look ps n <;> rfl
  · rename_i i e
    obtain ⟨hi, hname⟩ := idxF_name e
    dsimp only
    split
    · rfl
    split
    · rfl
    · exact look_set hi n _ (Ne.symm hn) (by rw [hname]; exact Ne.symm hn)
theorem del_other {ps : List PR} {m n : Int} (hn : n ≠ m) : look (delF ps m) n = look ps n := by
  unfold delF
  split
  · rename_i i e
    obtain ⟨hi, hname⟩ := idxF_name e
    exact look_erase hi n (by rw [hname]; exact Ne.symm hn)
  · rfl
theorem get_other {ps : List PR} {m kind off len n : Int} {rm : Bool} (hn : n ≠ m) : look (getF ps m kind off len rm).1 n = look ps n := by
  unfold getF
  split
  · rfl
  split
  · rfl
  · rename_i i e
    obtain ⟨hi, hname⟩ := idxF_name e
    dsimp only
    split
    · rfl
    split
    · rfl
    split
    · exact look_erase hi n (by rw [hname]; exact Ne.symm hn)
    · rfl
end Go.Proofs.Ytlnpelohdamklaa
