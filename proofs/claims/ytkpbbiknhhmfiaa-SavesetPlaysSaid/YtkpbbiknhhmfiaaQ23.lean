/- Plain: what SavesetPlays keeps. No condition. -/
import Derived.Test.YtkpbbiknhhmfiaaQ16
namespace Go.Proofs.Ytkpbbiknhhmfiaa
open Go Go.VM
set_option linter.unusedVariables false
set_option linter.unusedSimpArgs false
set_option maxHeartbeats 2000000
theorem ofS_put_same (t : SVT) (c : Int) (l : List Int) : ofS (putF t c l) c = l := by unfold ofS; rw [lk_put_same]; rfl
theorem ofS_put_ne (t : SVT) {c d : Int} (l : List Int) (h : d ≠ c) : ofS (putF t c l) d = ofS t d := by unfold ofS; rw [lk_put_ne _ _ h]
theorem ofS_copF (g : Int → Int → Bool) (c : Int) : ∀ {t : SVT}, (t.map (·.1)).Nodup → ofS (copF g t) c = leftF g c (ofS t c)
  | [], _ => rfl
  | p :: t, h => by
    rw [List.map_cons, List.nodup_cons] at h
    have ih := ofS_copF g c h.2
    have hcons : ∀ (q : Int × List Int) (s : SVT), ofS (q :: s) c = if q.1 = c then q.2 else ofS s c := fun q s => by
      unfold ofS lkF
      rw [List.find?_cons]
      by_cases e : q.1 = c
      · rw [decide_eq_true e, if_pos e]; rfl
      · rw [decide_eq_false e, if_neg e]
    have hz : ∀ s : SVT, c ∉ s.map (·.1) → ofS s c = [] := fun s hs => by
      unfold ofS
      cases e : lkF s c with
      | none => rfl
      | some x => exact absurd (List.mem_map.2 ⟨_, lkF_some e, rfl⟩) hs
    unfold copF at *
    rw [List.filterMap_cons, hcons p t]
    by_cases e : leftF g p.1 p.2 = []
    · rw [if_pos e, ih]
      by_cases hc : p.1 = c
      · rw [if_pos hc, ← hc, e, hc, hz t (hc ▸ h.1)]; rfl
      · rw [if_neg hc]
    · rw [if_neg e, hcons, ih]
      by_cases hc : p.1 = c
      · rw [if_pos hc, if_pos hc, hc]
      · rw [if_neg hc, if_neg hc]
structure PI (n : Nat) (t H : SVT) : Prop where
  nd : (t.map (·.1)).Nodup
  len : ∀ p ∈ t, p.2.length ≤ 64
  cnt : t.length ≤ n
  eq : ∀ c, ofS t c = srt (ofS H c)
  nod : ∀ c, (ofS H c).Nodup
  bd : ∀ c, (ofS H c).length ≤ 64
  out : ∀ c, ¬ (1 ≤ c ∧ c ≤ 8) → ofS H c = []
theorem PI.zero : PI 0 [] [] := ⟨by simp, by simp, by simp, fun c => by simp [ofS, lkF, srt], fun c => by simp [ofS, lkF], fun c => by simp [ofS, lkF], fun c _ => rfl⟩
def exF (id : Int) (l : List Int) : List Int := l.filter fun x => decide (x ≠ id)
theorem leftF_one (c id : Int) (l : List Int) : leftF (gOne c id) c l = exF id l := by
  unfold leftF exF gOne
  refine List.filter_congr fun x _ => ?_
  simp
theorem leftF_other {c d : Int} (h : d ≠ c) (id : Int) (l : List Int) : leftF (gOne c id) d l = l := by
  unfold leftF gOne
  refine List.filter_eq_self.2 fun x _ => ?_
  simp [h]
theorem exF_srt (id : Int) (l : List Int) : (exF id (srt l)).Perm (exF id l) := (srt_perm l).filter _
theorem exF_sorted (id : Int) (l : List Int) : exF id (srt l) = srt (exF id l) := srt_eq (exF_srt id l) ((srt_sorted l).filter _)
theorem exF_len {id : Int} {l : List Int} (h : l.Nodup) : (exF id l).length = l.length - if id ∈ l then 1 else 0 := by
  have e : exF id l = l.erase id := by
    rw [h.erase_eq_filter]
    unfold exF
    refine List.filter_congr fun x _ => ?_
    by_cases hx : x = id <;> simp [hx]
  rw [e]
  split
  · rename_i hm; rw [List.length_erase_of_mem hm]
  · rename_i hm; rw [List.erase_of_not_mem hm]; rfl
theorem exF_nodup {id : Int} {l : List Int} (h : l.Nodup) : (exF id l).Nodup := h.filter _
theorem exF_not (id : Int) (l : List Int) : id ∉ exF id l := fun h => by
  have := (List.mem_filter.1 h).2
  simp at this
def chH (H : SVT) (c id : Int) (add : Bool) : SVT := putF H c (exF id (ofS H c) ++ if add then [id] else [])
def othN (H : SVT) (c id : Int) : Int := ((ofS H c).length : Int) - if id ∈ ofS H c then 1 else 0
theorem cop_lens {g : Int → Int → Bool} {t : SVT} : (copF g t).length ≤ t.length := List.length_filterMap_le _ _
theorem PI.ch {n : Nat} {t H : SVT} (q : PI n t H) (c id : Int) (add : Bool) :
    (chF t c id add).2 = wrF c id (othN H c id) add ∧ (wrF c id (othN H c id) add = 0 → PI (n + 1) (chF t c id add).1 (chH H c id add)) ∧ (wrF c id (othN H c id) add ≠ 0 → (chF t c id add).1 = t) := by
  unfold chF wrF
  by_cases hs : schF c id ≠ 0
  · rw [if_pos hs, if_pos hs]
    exact ⟨rfl, fun e => absurd e hs, fun _ => rfl⟩
  rw [if_neg hs, if_neg hs]
  have hc : 1 ≤ c ∧ c ≤ 8 := by
    rcases Decidable.em (1 ≤ c ∧ c ≤ 8) with h | h
    · exact h
    · rw [sch_1 h] at hs; exact absurd (by decide) hs
  have hof : ofS (copF (gOne c id) t) c = srt (exF id (ofS H c)) := by rw [ofS_copF _ _ q.nd, q.eq, leftF_one, exF_sorted]
  have hofd : ∀ d, d ≠ c → ofS (copF (gOne c id) t) d = srt (ofS H d) := fun d hd => by rw [ofS_copF _ _ q.nd, leftF_other hd, q.eq]
  have hel := exF_len (id := id) (q.nod c)
  have hsl : (srt (exF id (ofS H c))).length = (exF id (ofS H c)).length := (srt_perm _).length_eq
  have hbd := q.bd c
  have hout : ∀ (L : List Int) d, ¬ (1 ≤ d ∧ d ≤ 8) → ofS (putF H c L) d = [] := fun L d hd => by
    rw [ofS_put_ne _ _ (fun e : d = c => hd (by rw [e]; exact hc))]; exact q.out d hd
  cases add with
  | false =>
    rw [if_pos rfl, if_neg (by simp)]
    refine ⟨rfl, fun _ => ?_, fun e => absurd rfl e⟩
    unfold chH
    rw [if_neg (by decide), List.append_nil]
    refine ⟨copF_nodup q.nd, copF_len q.len, Nat.le_succ_of_le (Nat.le_trans cop_lens q.cnt), fun d => ?_, fun d => ?_, fun d => ?_, hout _⟩
    · by_cases hd : d = c
      · subst hd; rw [hof, ofS_put_same]
      · rw [hofd d hd, ofS_put_ne _ _ hd]
    · by_cases hd : d = c
      · subst hd; rw [ofS_put_same]; exact exF_nodup (q.nod d)
      · rw [ofS_put_ne _ _ hd]; exact q.nod d
    · by_cases hd : d = c
      · subst hd; rw [ofS_put_same]; omega
      · rw [ofS_put_ne _ _ hd]; exact q.bd d
  | true =>
    rw [if_neg (by decide), hof, hsl]
    have hoth : (64 ≤ othN H c id) ↔ 64 ≤ (exF id (ofS H c)).length := by
      unfold othN
      rw [hel]
      split
      · rename_i hm
        have : 0 < (ofS H c).length := List.length_pos_of_mem hm
        omega
      · omega
    by_cases h64 : 64 ≤ (exF id (ofS H c)).length
    · rw [if_pos h64, if_pos ⟨rfl, hoth.2 h64⟩]
      exact ⟨rfl, fun e => absurd e (by decide), fun _ => rfl⟩
    · rw [if_neg h64, if_neg (fun e => h64 (hoth.1 e.2))]
      refine ⟨rfl, fun _ => ?_, fun e => absurd rfl e⟩
      unfold chH
      rw [if_pos rfl]
      have hpm : (srt (exF id (ofS H c)) ++ [id]).Perm (exF id (ofS H c) ++ [id]) := (srt_perm _).append_right _
      refine ⟨putF_nodup _ _ (copF_nodup q.nd), fun p hp => ?_, Nat.le_trans (putF_len _ _ _) (Nat.succ_le_succ (Nat.le_trans cop_lens q.cnt)), fun d => ?_, fun d => ?_, fun d => ?_, hout _⟩
      · rcases putF_mem hp with rfl | hp
        · rw [(srt_perm _).length_eq, List.length_append, hsl]; simp; omega
        · exact copF_len q.len p hp
      · by_cases hd : d = c
        · subst hd; rw [ofS_put_same, ofS_put_same, srt_congr hpm]
        · rw [ofS_put_ne _ _ hd, ofS_put_ne _ _ hd, hofd d hd]
      · by_cases hd : d = c
        · subst hd
          rw [ofS_put_same, List.nodup_append]
          exact ⟨exF_nodup (q.nod d), by simp, fun a ha b hb => by simp at hb; subst hb; exact fun e => exF_not b _ (e ▸ ha)⟩
        · rw [ofS_put_ne _ _ hd]; exact q.nod d
      · by_cases hd : d = c
        · subst hd; rw [ofS_put_same, List.length_append]; simp; omega
        · rw [ofS_put_ne _ _ hd]; exact q.bd d
/-- What is left of a client's ids when one is dropped. -/
def rsF (c : Int) (ids : List Int) (d : Int) (l : List Int) : List Int := l.filter fun x => decide (d ≠ c) && !decide (x ∈ ids)
theorem leftF_drop (c : Int) (ids : List Int) (d : Int) (l : List Int) : leftF (fun a b => decide (a = c) || decide (b ∈ ids)) d l = rsF c ids d l := by
  unfold leftF rsF
  refine List.filter_congr fun x _ => ?_
  by_cases h1 : d = c <;> by_cases h2 : x ∈ ids <;> simp [h1, h2]
theorem PI.drop {n : Nat} {t H H' : SVT} (q : PI n t H) (c : Int) (ids : List Int) (hH : ∀ d, ofS H' d = if 1 ≤ d ∧ d ≤ 8 then rsF c ids d (ofS H d) else ofS H d) : PI (n + 1) (dropS t c ids) H' := by
  unfold dropS
  have hin : ∀ d, ofS H' d = rsF c ids d (ofS H d) := fun d => by
    rw [hH]
    split
    · rfl
    · rename_i hd; rw [q.out d hd]; rfl
  refine ⟨copF_nodup q.nd, copF_len q.len, Nat.le_succ_of_le (Nat.le_trans cop_lens q.cnt), fun d => ?_, fun d => ?_, fun d => ?_, fun d hd => ?_⟩
  · rw [ofS_copF _ _ q.nd, q.eq, leftF_drop, hin]
    exact srt_eq ((srt_perm _).filter _) ((srt_sorted _).filter _)
  · rw [hin]; exact (q.nod d).filter _
  · rw [hin]; exact Nat.le_trans (List.length_filter_le _ _) (q.bd d)
  · rw [hin, q.out d hd]; rfl
theorem rsF_snoc (c : Int) (ids : List Int) (d : Int) (l : List Int) (x : Int) : rsF c ids d (l ++ [x]) = rsF c ids d l ++ if (decide (d ≠ c) && !decide (x ∈ ids)) then [x] else [] := by
  unfold rsF
  rw [List.filter_append]
  congr 1
  rw [List.filter_cons, List.filter_nil]
theorem exF_snoc (id : Int) (l : List Int) (x : Int) : exF id (l ++ [x]) = exF id l ++ if x ≠ id then [x] else [] := by
  unfold exF
  rw [List.filter_append]
  congr 1
  by_cases h : x = id <;> simp [h]
end Go.Proofs.Ytkpbbiknhhmfiaa
