import Derived.Test.YtlnpelohdamklaaL1
import Derived.Test.YtlnpelohdamklaaP5
import Derived.Test.YtlnpelohdamklaaP6
namespace Go.Proofs.Ytlnpelohdamklaa
open Go Go.VM
set_option linter.unusedVariables false
set_option linter.unusedSimpArgs false
/-! The program's list and the document's: the same properties, each name once. -/
def OkR (ps ms : List PR) : Prop := ps.Perm ms ∧ (ps.map PR.name).Nodup ∧ ps.length ≤ 64 ∧ ∀ p ∈ ps, p.data.length ≤ 16384
theorem names_inj {l : List PR} (h : (l.map PR.name).Nodup) {a b : PR} (ha : a ∈ l) (hb : b ∈ l) (e : a.name = b.name) : a = b := by
  induction l with
  | nil => cases ha
  | cons x l ih =>
    rw [List.map_cons, List.nodup_cons] at h
    rcases List.mem_cons.1 ha with ea | ha <;> rcases List.mem_cons.1 hb with eb | hb
    · rw [ea, eb]
    · exact absurd (List.mem_map.2 ⟨b, hb, by rw [← ea]; exact e.symm⟩) h.1
    · exact absurd (List.mem_map.2 ⟨a, ha, by rw [← eb]; exact e⟩) h.1
    · exact ih h.2 ha hb
theorem idxF_none_iff {ps : List PR} {n : Int} : idxF ps n = none ↔ ∀ p ∈ ps, p.name ≠ n := by
  unfold idxF
  rw [List.findIdx?_eq_none_iff]
  simp
theorem idx_perm {ps ms : List PR} (h : ps.Perm ms) (n : Int) : (idxF ps n).isSome = (idxF ms n).isSome := by
  cases e : idxF ps n with
  | none =>
    have : idxF ms n = none := idxF_none_iff.2 fun p hp => idxF_none_iff.1 e p (h.mem_iff.2 hp)
    rw [this]
  | some i =>
    cases e2 : idxF ms n with
    | some j => rfl
    | none =>
      obtain ⟨hi, hn⟩ := idxF_name e
      exact absurd hn (idxF_none_iff.1 e2 _ (h.mem_iff.1 (List.getElem_mem hi)))
theorem idx_same {ps ms : List PR} (h : OkR ps ms) {n : Int} {i j : Nat} (e : idxF ps n = some i) (e2 : idxF ms n = some j) : ps.getD i PR.zero = ms.getD j PR.zero := by
  obtain ⟨hi, hn⟩ := idxF_name e
  obtain ⟨hj, hm⟩ := idxF_name e2
  rw [getD_lt hi, getD_lt hj]
  exact names_inj h.2.1 (List.getElem_mem hi) (h.1.mem_iff.2 (List.getElem_mem hj)) (hn.trans hm.symm)
theorem rdel_none {ms : List PR} {n : Int} (e : idxF ms n = none) : rdelF ms n = ms := by
  unfold rdelF
  rw [List.filter_eq_self]
  intro p hp
  simpa using idxF_none_iff.1 e p hp
theorem set_perm {ps : List PR} {i : Nat} (hi : i < ps.length) (q : PR) : (ps.set i q).Perm (q :: ps.eraseIdx i) := by
  rw [List.set_eq_take_append_cons_drop, if_pos hi, List.eraseIdx_eq_take_drop_succ]
  exact List.perm_middle
theorem rdel_erase {ps : List PR} (h : (ps.map PR.name).Nodup) {n : Int} {i : Nat} (e : idxF ps n = some i) : rdelF ps n = ps.eraseIdx i := by
  obtain ⟨hi, hn⟩ := idxF_name e
  have hs : ps = ps.take i ++ ps[i] :: ps.drop (i + 1) := by rw [← List.drop_eq_getElem_cons hi, List.take_append_drop]
  have hd := h
  rw [hs, List.map_append, List.map_cons, List.nodup_append] at hd
  obtain ⟨_, h2, h3⟩ := hd
  rw [List.nodup_cons] at h2
  rw [List.eraseIdx_eq_take_drop_succ]
  conv => lhs; rw [hs]
  unfold rdelF
  rw [List.filter_append, List.filter_cons]
  simp only [hn, ne_eq, not_true_eq_false, decide_false, Bool.false_eq_true, if_false]
  congr 1
  · rw [List.filter_eq_self]
    intro p hp
    have := h3 p.name (List.mem_map.2 ⟨p, hp, rfl⟩) ps[i].name (.head _)
    rw [hn] at this
    simpa using this
  · rw [List.filter_eq_self]
    intro p hp
    have : p.name ≠ n := fun e => h2.1 (List.mem_map.2 ⟨p, hp, e.trans hn.symm⟩)
    simpa using this
theorem erase_ok {ps ms : List PR} (h : OkR ps ms) {n : Int} {i : Nat} (e : idxF ps n = some i) : OkR (ps.eraseIdx i) (rdelF ms n) := by
  obtain ⟨h1, h2, h3, h4⟩ := h
  refine ⟨?_, ?_, ?_, ?_⟩
  · rw [← rdel_erase h2 e]; exact h1.filter _
  · rw [← rdel_erase h2 e]; exact (List.filter_sublist.map _).nodup h2
  · exact Nat.le_trans (List.length_eraseIdx_le _ _) h3
  · exact fun p hp => h4 p (List.mem_of_mem_eraseIdx hp)
theorem ok_del {ps ms : List PR} (h : OkR ps ms) (n : Int) : OkR (delF ps n) (rdelF ms n) := by
  unfold delF
  cases e : idxF ps n with
  | none =>
    have e2 := idx_perm h.1 n
    rw [e] at e2
    rw [rdel_none (by simpa using e2.symm)]
    exact h
  | some i => exact erase_ok h e
theorem chk_same (p : PR) : chkF p = rchkF p := by
  unfold chkF rchkF mostF rmostF
  split
  · rfl
  split
  · rfl
  split
  · simp
  split
  · simp
  split
  · simp
  · simp
theorem ok_chg {ps ms : List PR} (h : OkR ps ms) (mode : Int) (p : PR) : (chgF ps mode p).2 = (rchgF ms mode p).2 ∧ OkR (chgF ps mode p).1 (rchgF ms mode p).1 := by
  by_cases hm : mode < 0 ∨ 2 < mode
  · rw [chg_kind (by omega) (by omega) (by omega), rchg_kind ms mode p hm]
    exact ⟨rfl, h⟩
  by_cases hc : chkF p ≠ 0
  · rw [chg_chk (by omega) hc, rchg_chk ms mode p (by omega) (chk_same p).symm hc]
    exact ⟨rfl, h⟩
  replace hc : chkF p = 0 := Decidable.not_not.1 hc
  have hc2 : rchkF p = 0 := (chk_same p).symm.trans hc
  have hpl : p.data.length ≤ 16384 := by
    rcases Nat.lt_or_ge 16384 p.data.length with hl | hl
    · unfold chkF at hc
      split at hc <;> first | omega | skip
      all_goals (rw [if_pos hl] at hc; omega)
    · exact hl
  have hp := idx_perm h.1 p.name
  cases e : idxF ps p.name with
  | none =>
    rw [e] at hp
    have e2 : idxF ms p.name = none := by simpa using hp.symm
    rw [chg_none (by omega) hc e, rchg_none (by omega) hc2 e2, h.1.length_eq, rdel_none e2]
    split
    · exact ⟨rfl, h⟩
    · rename_i hlen
      refine ⟨rfl, h.1.append_right _, ?_, by simp; have := h.1.length_eq; omega, ?_⟩
      · rw [List.map_append, List.nodup_append]
        refine ⟨h.2.1, by simp, ?_⟩
        intro a ha b hb
        obtain ⟨q, hq, rfl⟩ := List.mem_map.1 ha
        have : b = p.name := by simpa using hb
        subst this
        exact idxF_none_iff.1 e q hq
      · intro q hq
        rcases List.mem_append.1 hq with hq | hq
        · exact h.2.2.2 q hq
        · have : q = p := by simpa using hq
          subst this; exact hpl
  | some i =>
    rw [e] at hp
    cases e2 : idxF ms p.name with
    | none => rw [e2] at hp; simp at hp
    | some j =>
      have hi := idxF_lt e
      have hj := idxF_lt e2
      have hs := idx_same h e e2
      rw [chg_some (by omega) hc e, rchg_some (by omega) hc2 e2 hj, ← getD_lt hj, ← hs]
      split
      · exact ⟨rfl, h⟩
      split
      · exact ⟨rfl, h⟩
      rename_i h5 h6
      obtain ⟨k1, k2, k3, k4⟩ := erase_ok h e
      obtain ⟨_, hn⟩ := idxF_name e
      refine ⟨rfl, ?_, ?_, by simpa using h.2.2.1, ?_⟩
      · exact ((set_perm hi _).trans (k1.cons _)).trans (List.perm_append_comm (l₁ := [_]))
      · rw [List.map_set]
        have : (ps.map PR.name).set i p.name = ps.map PR.name := by
          apply List.ext_getElem?
          intro k
          rw [List.getElem?_set]
          split
          · rename_i hk; subst hk; simp [hi, hn]
          · rfl
        rw [this]; exact h.2.1
      · intro q hq
        rcases List.mem_or_eq_of_mem_set hq with hq | rfl
        · exact h.2.2.2 q hq
        · simp only [newD]
          split
          · exact hpl
          split <;> (rw [List.length_append]; omega)
theorem ok_get {ps ms : List PR} (h : OkR ps ms) (name kind off len : Int) (rm : Bool) : (getF ps name kind off len rm).2 = (rgetF ms name kind off len rm).2 ∧ OkR (getF ps name kind off len rm).1 (rgetF ms name kind off len rm).1 := by
  by_cases h0 : off < 0 ∨ len < 0
  · rw [get_rng h0, rget_rng h0]; exact ⟨rfl, h⟩
  have hp := idx_perm h.1 name
  cases e : idxF ps name with
  | none =>
    rw [e] at hp
    have e2 : idxF ms name = none := by simpa using hp.symm
    rw [get_none (by omega) (by omega) e, rget_none (by omega) (by omega) e2]; exact ⟨rfl, h⟩
  | some i =>
    rw [e] at hp
    cases e2 : idxF ms name with
    | none => rw [e2] at hp; simp at hp
    | some j =>
      have hi := idxF_lt e
      have hj := idxF_lt e2
      have hs := idx_same h e e2
      rw [getD_lt hi, getD_lt hj] at hs
      rw [get_some (by omega) (by omega) e hi, rget_some (by omega) (by omega) e2 hj, ← hs]
      split
      · exact ⟨rfl, h⟩
      split
      · exact ⟨rfl, h⟩
      dsimp only
      split
      · exact ⟨rfl, erase_ok h e⟩
      · exact ⟨rfl, h⟩
/-! The acts. -/
structure AC where
  kind : Int
  mode : Int
  p : PR
  typ : Int
  off : Int
  len : Int
  rm : Bool
def AC.enc (a : AC) : AV := .agg [.val (.int .i64 a.kind), .val (.int .i64 a.mode), .val (.int .u32 a.p.name), .val (.int .u32 a.p.typ), .val (.int .i64 a.p.fmt), .ro 1 (ints .i64 a.p.data), .val (.int .u32 a.typ), .val (.int .i64 a.off), .val (.int .i64 a.len), .val (.bool a.rm)]
def stepP (ps : List PR) (a : AC) : List PR :=
  if a.kind = 0 then (chgF ps a.mode a.p).1 else if a.kind = 1 then (getF ps a.p.name a.typ a.off a.len a.rm).1 else if a.kind = 2 then delF ps a.p.name else ps
def stepM (ps : List PR) (a : AC) : List PR :=
  if a.kind = 0 then (rchgF ps a.mode a.p).1 else if a.kind = 1 then (rgetF ps a.p.name a.typ a.off a.len a.rm).1 else if a.kind = 2 then rdelF ps a.p.name else ps
theorem ok_step {ps ms : List PR} (h : OkR ps ms) (a : AC) : OkR (stepP ps a) (stepM ms a) := by
  unfold stepP stepM
  split
  · exact (ok_chg h _ _).2
  split
  · exact (ok_get h _ _ _ _ _).2
  split
  · exact ok_del h _
  · exact h
def playP (l : List AC) : List PR := l.foldl stepP []
def playM (l : List AC) : List PR := l.foldl stepM []
theorem ok_nil : OkR [] [] := ⟨.nil, by simp, by simp, by simp⟩
theorem ok_fold {ps ms : List PR} (h : OkR ps ms) (l : List AC) : OkR (l.foldl stepP ps) (l.foldl stepM ms) := by
  induction l generalizing ps ms with
  | nil => exact h
  | cons a l ih => exact ih (ok_step h a)
theorem ok_play (l : List AC) : OkR (playP l) (playM l) := ok_fold ok_nil l
theorem playP_succ {l : List AC} {k : Nat} (hk : k < l.length) : playP (l.take (k + 1)) = stepP (playP (l.take k)) l[k] := by
  unfold playP
  rw [List.take_add_one, List.getElem?_eq_getElem hk, List.foldl_append]; rfl
theorem playM_succ {l : List AC} {k : Nat} (hk : k < l.length) : playM (l.take (k + 1)) = stepM (playM (l.take k)) l[k] := by
  unfold playM
  rw [List.take_add_one, List.getElem?_eq_getElem hk, List.foldl_append]; rfl
def sumD (l : List AC) : Nat := (l.map (fun a => a.p.data.length)).sum
theorem sumD_succ {l : List AC} {k : Nat} (hk : k < l.length) : sumD (l.take (k + 1)) = sumD (l.take k) + l[k].p.data.length := by
  unfold sumD
  rw [List.take_add_one, List.getElem?_eq_getElem hk, List.map_append, List.sum_append]; simp
def greatF (l : List AC) : Bool := decide (600 < l.length + sumD (l.take 90)) || decide (90 < l.length)
theorem sumD_mem {l : List AC} {a : AC} (h : a ∈ l) : a.p.data.length ≤ sumD l := by
  unfold sumD
  induction l with
  | nil => cases h
  | cons x l ih =>
    rcases List.mem_cons.1 h with rfl | h
    · simp
    · have := ih h; simp; omega
theorem greatF_false {l : List AC} (h : greatF l = false) : l.length ≤ 90 ∧ ∀ a ∈ l, a.p.data.length ≤ 600 := by
  unfold greatF at h
  rw [Bool.or_eq_false_iff] at h
  have h1 := of_decide_eq_false h.1
  have h2 := of_decide_eq_false h.2
  refine ⟨by omega, fun a ha => ?_⟩
  rw [List.take_of_length_le (by omega)] at h1
  have := sumD_mem ha
  omega
end Go.Proofs.Ytlnpelohdamklaa
