/- The law's windows made. No condition. -/
import Derived.Test.YtkpbbiknhhmfiaaQ15
namespace Go.Proofs.Ytkpbbiknhhmfiaa
open Go Go.VM
attribute [local irreducible] PurV Pur Step RL W D ACalls Then InBlock Fini
set_option linter.unusedVariables false
set_option linter.unusedSimpArgs false
set_option maxHeartbeats 20000000
section
variable {α : Type}
theorem lk_put_same (t : List (Int × α)) (i : Int) (a : α) : lkF (putF t i a) i = some a := by
  unfold putF
  cases h : lkF t i with
  | none =>
    simp only [Option.isSome_none, Bool.false_eq_true, if_false]
    have := lkF_none.1 h
    unfold lkF
    rw [List.find?_append, List.find?_eq_none.2 (fun p hp => by simpa using this p hp)]
    simp
  | some x =>
    simp only [Option.isSome_some, if_true]
    unfold lkF at h ⊢
    rw [List.find?_map]
    have e : ((fun p : Int × α => decide (p.1 = i)) ∘ fun p : Int × α => if p.1 = i then (i, a) else p) = fun p => decide (p.1 = i) := by
      funext p
      show decide ((if p.1 = i then (i, a) else p).1 = i) = decide (p.1 = i)
      split <;> simp_all
    rw [e]
    cases hf : t.find? (fun p => decide (p.1 = i)) with
    | none => rw [hf] at h; cases h
    | some p =>
      have := List.find?_some hf
      simp only [decide_eq_true_eq] at this
      simp [this]
theorem lk_put_ne (t : List (Int × α)) {i j : Int} (a : α) (hj : j ≠ i) : lkF (putF t i a) j = lkF t j := by
  unfold putF
  split
  · unfold lkF
    rw [List.find?_map]
    have e : ((fun p : Int × α => decide (p.1 = j)) ∘ fun p : Int × α => if p.1 = i then (i, a) else p) = fun p => decide (p.1 = j) := by
      funext p
      show decide ((if p.1 = i then (i, a) else p).1 = j) = decide (p.1 = j)
      split
      · rename_i h; rw [h]
      · rfl
    rw [e]
    cases hf : t.find? (fun p => decide (p.1 = j)) with
    | none => rfl
    | some p =>
      have := List.find?_some hf
      simp only [decide_eq_true_eq] at this
      have hp : ¬ p.1 = i := fun e => hj (this ▸ e)
      simp [hp]
  · unfold lkF
    rw [List.find?_append]
    cases t.find? (fun p => decide (p.1 = j)) with
    | none => simp [Ne.symm hj]
    | some p => rfl
theorem putF_mem {t : List (Int × α)} {i : Int} {a : α} {q : Int × α} (h : q ∈ putF t i a) : q = (i, a) ∨ q ∈ t := by
  unfold putF at h
  split at h
  · obtain ⟨p, hp, rfl⟩ := List.mem_map.1 h
    split
    · exact .inl rfl
    · exact .inr hp
  · rcases List.mem_append.1 h with h | h
    · exact .inr h
    · exact .inl (by simpa using h)
theorem putF_len (t : List (Int × α)) (i : Int) (a : α) : (putF t i a).length ≤ t.length + 1 := by
  unfold putF
  split <;> simp
theorem putF_nodup {t : List (Int × α)} (i : Int) (a : α) (h : (t.map (·.1)).Nodup) : ((putF t i a).map (·.1)).Nodup := by
  cases e : lkF t i with
  | some x =>
    unfold putF
    rw [e]
    simp only [Option.isSome_some, if_true]
    have : (t.map fun p => if p.1 = i then (i, a) else p).map (·.1) = t.map (·.1) := by
      rw [List.map_map]
      refine List.map_congr_left fun p _ => ?_
      show (if p.1 = i then (i, a) else p).1 = p.1
      split
      · rename_i e; exact e.symm
      · rfl
    rw [this]; exact h
  | none =>
    have hn : i ∉ t.map (·.1) := fun hm => by
      obtain ⟨p, h1, h2⟩ := List.mem_map.1 hm
      exact lkF_none.1 e p h1 h2
    rw [putF_new a hn, List.map_append, List.nodup_append]
    exact ⟨h, by simp, fun x hx y hy => by simp at hy; subst hy; exact fun e => hn (e ▸ hx)⟩
theorem not_key {t : List (Int × α)} {i : Int} (h : lkF t i = none) : i ∉ t.map (·.1) := fun hm => by
  obtain ⟨p, h1, h2⟩ := List.mem_map.1 hm
  exact lkF_none.1 h p h1 h2
end
/-- The kids' lists of a tree made of n windows. -/
structure KI (n : Nat) (k : SVT) (up : UP) : Prop where
  nd : (k.map (·.1)).Nodup
  len : ∀ p ∈ k, p.2.length ≤ n
  cnt : k.length ≤ n
  par : ∀ id p, lkF up id = some p → ∃ L, lkF k p = some L
theorem KI.add {n : Nat} {k : SVT} {up : UP} (q : KI n k up) (id p : Int) : KI (n + 1) (putF k p (ofS k p ++ [id])) (putF up id p) := by
  refine ⟨putF_nodup _ _ q.nd, fun x hx => ?_, Nat.le_trans (putF_len _ _ _) (Nat.succ_le_succ q.cnt), fun a b hab => ?_⟩
  · rcases putF_mem hx with rfl | hx
    · have := ofs_len q.len p
      simp only [List.length_append, List.length_singleton]
      omega
    · exact Nat.le_succ_of_le (q.len x hx)
  · by_cases hb : b = p
    · exact ⟨_, by rw [hb]; exact lk_put_same _ _ _⟩
    · rw [lk_put_ne _ _ hb]
      by_cases ha : a = id
      · rw [ha, lk_put_same] at hab
        injection hab with hab
        exact absurd hab.symm hb
      · rw [lk_put_ne _ _ ha] at hab
        exact q.par a b hab
def stS (sv : List Int) : SVT := if sv = [] then [] else [(1, sv)]
theorem ofS_stS (sv : List Int) : ofS (stS sv) 1 = sv := by
  unfold stS
  split
  · rename_i h; rw [h]; rfl
  · rfl
theorem ofS_stS_ne (sv : List Int) {c : Int} (hc : c ≠ 1) : ofS (stS sv) c = [] := by
  unfold stS
  split
  · rfl
  · simp [ofS, lkF, Ne.symm hc]
theorem stS_nodup (sv : List Int) : ((stS sv).map (·.1)).Nodup := by unfold stS; split <;> simp
theorem stS_lens {sv : List Int} {n : Nat} (h : sv.length ≤ n) : ∀ p ∈ stS sv, p.2.length ≤ n := by
  unfold stS
  split
  · simp
  · intro p hp; simp at hp; rw [hp]; exact h
theorem stS_len (sv : List Int) : (stS sv).length ≤ 1 := by unfold stS; split <;> simp
theorem cop_stS {sv : List Int} {id : Int} (h : id ∉ sv) : copF (gOne 1 id) (stS sv) = stS sv := by
  unfold stS
  split
  · rfl
  · rename_i hne
    have e : leftF (gOne 1 id) 1 sv = sv := List.filter_eq_self.2 fun a ha => by
      unfold gOne
      have : a ≠ id := fun e => h (e ▸ ha)
      simp [this]
    unfold copF
    simp [e, hne]
theorem put_stS (sv l : List Int) (hl : l ≠ []) : putF (stS sv) 1 l = stS l := by
  unfold stS
  rw [if_neg hl]
  split
  · rfl
  · simp [putF, lkF]
theorem ch_stS {sv : List Int} {id : Int} (h : id ∉ sv) (hsch : schF 1 id = 0) (hlen : sv.length < 64) (hs : srt (sv ++ [id]) = sv ++ [id]) : chF (stS sv) 1 id true = (stS (sv ++ [id]), 0) := by
  unfold chF
  rw [if_neg (by omega), if_neg (by decide), cop_stS h, ofS_stS, if_neg (by omega), hs, put_stS _ _ (by simp)]
end Go.Proofs.Ytkpbbiknhhmfiaa
