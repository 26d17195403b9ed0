/- HeldBounds. No condition. -/
import Derived.Test.YtmhncankbgjmbaaH7
namespace Go.Proofs.Ytmhncankbgjmbaa
open Go Go.VM
attribute [local irreducible] PurV Pur Step RL W D ACalls Then InBlock Fini
set_option linter.unusedVariables false
set_option linter.unusedSimpArgs false
set_option maxHeartbeats 20000000
def bT (c k : Int) (n : Nat) : TB := (List.range n).map fun j : Nat => (c * 1048576 + ((j : Int) + 1), if j < 63 then 1 else k)
theorem bT_len (c k : Int) (n : Nat) : (bT c k n).length = n := by simp [bT]
theorem bT_succ (c k : Int) (n : Nat) : bT c k (n + 1) = bT c k n ++ [(c * 1048576 + ((n : Int) + 1), if n < 63 then 1 else k)] := by simp [bT, List.range_succ]
theorem bT_mem {c k : Int} {n : Nat} {p : Int × Int} (h : p ∈ bT c k n) : ∃ j : Nat, j < n ∧ p = (c * 1048576 + ((j : Int) + 1), if j < 63 then 1 else k) := by
  unfold bT at h
  obtain ⟨j, h1, h2⟩ := List.mem_map.1 h
  exact ⟨j, by simpa using h1, h2.symm⟩
theorem bT_mine {c : Int} (h1 : 1 ≤ c) (h2 : c ≤ 8) {j : Int} (h3 : 1 ≤ j) (h4 : j ≤ 2000) : mineF c (c * 1048576 + j) = true := by
  rw [mine_rc]
  unfold rcF
  rw [if_neg (by omega)]
  omega
theorem bT_no {c k : Int} {n : Nat} {j : Int} (h : (n : Int) < j) : kindF (bT c k n) (c * 1048576 + j) = 0 := by
  have : lkF (bT c k n) (c * 1048576 + j) = none := lkF_none.2 fun p hp e => by
    obtain ⟨i, hi, rfl⟩ := bT_mem hp
    simp at e; omega
  unfold kindF; rw [this]; rfl
theorem bT_nd (c k : Int) (n : Nat) : ((bT c k n).map (·.1)).Nodup := by
  unfold bT
  rw [List.map_map]
  unfold List.Nodup
  rw [List.pairwise_map]
  refine (List.nodup_range (n := n)).imp fun {a b} h e => h ?_
  simp at e
  omega
theorem bT_nz {c k : Int} (hk1 : 2 ≤ k) {n : Nat} : ∀ p ∈ bT c k n, p.2 ≠ 0 := fun p hp => by
  obtain ⟨j, _, rfl⟩ := bT_mem hp
  simp only
  split <;> omega
theorem bT_wins (c k : Int) {n : Nat} (h : n ≤ 63) : winsF (bT c k n) = n := by
  unfold winsF
  rw [List.countP_eq_length.2, bT_len]
  intro p hp
  obtain ⟨i, hi, rfl⟩ := bT_mem hp
  simp; omega
theorem bT_add {c k : Int} (h1 : 1 ≤ c) (h2 : c ≤ 8) (hk1 : 2 ≤ k) (hk2 : k ≤ 4) {n : Nat} (hn : n < 1024) : addF (bT c k n) c (c * 1048576 + ((n : Int) + 1)) (if n < 63 then 1 else k) = (bT c k (n + 1), 0) := by
  unfold addF
  rw [if_neg (by split <;> omega), bT_mine h1 h2 (by omega) (by omega), if_neg (by simp), bT_no (by omega), if_neg (by simp), bT_len, if_neg (by omega), if_neg, bT_succ]
  rintro ⟨q1, q2⟩
  by_cases h : n < 63
  · rw [bT_wins c k (by omega)] at q2; omega
  · rw [if_neg h] at q1; omega
theorem bT_63 {c k : Int} (h1 : 1 ≤ c) (h2 : c ≤ 8) : (addF (bT c k 63) c (c * 1048576 + 64) 1).2 = 5 := by
  unfold addF
  rw [if_neg (by omega), bT_mine h1 h2 (by omega) (by omega), if_neg (by simp), bT_no (by omega), if_neg (by simp), bT_len, if_neg (by omega), if_pos ⟨rfl, by rw [bT_wins c k (by omega)]; omega⟩]
theorem bT_1025 {c k : Int} (h1 : 1 ≤ c) (h2 : c ≤ 8) (hk1 : 2 ≤ k) (hk2 : k ≤ 4) : (addF (bT c k 1024) c (c * 1048576 + 1025) k).2 = 5 := by
  unfold addF
  rw [if_neg (by omega), bT_mine h1 h2 (by omega) (by omega), if_neg (by simp), bT_no (by omega), if_neg (by simp), bT_len, if_pos (by omega)]
theorem bT_twice {c k : Int} (h1 : 1 ≤ c) (h2 : c ≤ 8) (hk1 : 2 ≤ k) (hk2 : k ≤ 4) : (addF (bT c k 1024) c (c * 1048576 + 1) k).2 = 7 := by
  have hm : (c * 1048576 + 1, (1 : Int)) ∈ bT c k 1024 := by
    unfold bT
    exact List.mem_map.2 ⟨0, by simp, by simp⟩
  have : kindF (bT c k 1024) (c * 1048576 + 1) = 1 := by unfold kindF; rw [lkF_nodup (bT_nd c k 1024) hm]; rfl
  unfold addF
  rw [if_neg (by omega), bT_mine h1 h2 (by omega) (by omega), if_neg (by simp), this, if_pos (by simp)]
theorem ofF_all {t : TB} {c : Int} (h : ∀ p ∈ t, mineF c p.1 = true ∧ 1 ≤ p.2 ∧ p.2 ≤ 4) : (ofF t c).length = t.length := by
  have hk : ∀ k : Int, (srt (ofK t c k)).length = t.countP fun p => decide (p.2 = k) := fun k => by
    rw [(srt_perm _).length_eq]
    unfold ofK
    rw [List.length_map, ← List.countP_eq_length_filter]
    refine List.countP_congr fun p hp => ?_
    simp [(h p hp).1]
  unfold ofF
  simp only [List.length_append, hk]
  clear hk
  induction t with
  | nil => rfl
  | cons p t ih =>
    have := ih fun q hq => h q (.tail _ hq)
    obtain ⟨_, q1, q2⟩ := h p (.head _)
    simp only [List.countP_cons, List.length_cons]
    obtain h | h | h | h : p.2 = 1 ∨ p.2 = 2 ∨ p.2 = 3 ∨ p.2 = 4 := by omega
    all_goals simp [h]; omega
set_option maxRecDepth 100000 in
theorem bounds_c (cl kd : Int) (h : Heap) (c0 : 0 ≤ cl) (c1 : cl ≤ 255) (k0 : 0 ≤ kd) (k1 : kd ≤ 255) :
    ACalls Try.prog 3 [.val (.int .u8 cl), .val (.int .u8 kd)] h (fun r h' => r = .val (.bool true) ∧ h' = h) := by
  refine ACalls.intro Try.func3 rfl Try.ntmps3 Try.results3 (Nat.le_of_ble_eq_true rfl) ?_
  have hc1 : 1 ≤ cl % 8 + 1 := by omega
  have hc2 : cl % 8 + 1 ≤ 8 := by omega
  have hk1 : 2 ≤ kd % 3 + 2 := by omega
  have hk2 : kd % 3 + 2 ≤ 4 := by omega
  (repeat' (first | (refine iS ?_; refine iMu ?_; refine S.mapU ?_) | (refine iS ?_; refine iZ ?_; refine S.nilq (fun b hq => ?_)) | refine sv1 ?_ | (refine iS ?_; first | (refine iT ?_; first | refine S.store_one ?_ | refine S.store_whole ?_ | refine S.store_elem ?_ | refine S.store_field ?_) | (refine iY ?_; refine S.copy ?_) | (refine iMd ?_; refine S.mapD ?_) | (refine iC ?_; first | refine S.append1 (fun u => ?_) | refine S.append (fun u => ?_) | refine S.append_nil (fun u => ?_)) | (refine iN ?_; first | refine S.build1 (fun u => ?_) | refine S.build2 (fun u => ?_) | refine S.build3 (fun u => ?_) | refine S.build0 (fun u => ?_)) | (refine iK ?_; refine S.make (fun u => ?_))) | (refine svg (fun hg => ?_) (fun hg => ?_) <;> try (exfalso; first | omega | contradiction)) | (refine svc (fun hc => ?_) (fun hc => ?_) <;> try (exfalso; first | omega | contradiction)) | refine sv2 ?_ | refine svh (fun hb => ?_) (fun hb => ?_) | refine svb (fun b => ?_) | refine sva ?_ | refine sv3 ?_))
  generalize cl % 8 + 1 = c at *
  generalize kd % 3 + 2 = k at *
  revert b; intro b7
  refine W.loop (J := fun i : Nat => ⟨111, [(9, .val (.int .i64 ((i : Int) + 1))), (8, .val (.int .i64 0)), (7, .val (.pointer (some ⟨b7, 0, none⟩))), (6, .val (.int .i64 k)), (5, .val (.int .i64 c)), (4, .val (.bool false))], .box b7 (encT (bT c k i)).cells 24 :: h⟩)
    (Φ := fun i => i ≤ 63) (μ := fun i => 63 - i) 0 ⟨rfl, (by repeat (first | exact LeT.nil | refine LeT.cons rfl ?_ | refine LeT.consw rfl (by (repeat (first | exact Wk.refl _ | exact Wk.nilr _ | exact Wk.nilm | apply Wk.aggc | apply Wk.tupc | exact Wk.aggn | exact Wk.tupn)); first | done | fail) ?_)), (by repeat (first | exact LeH.refl _ | exact LeH.nil _ | refine LeH.cons (by (fail_if_success (apply tkG)); (repeat (first | exact Tk.here | apply Tk.there)); first | done | fail) ?_ | refine LeH.boxw (by (fail_if_success (apply tkG)); (repeat (first | exact Tk.here | apply Tk.there)); first | done | fail) (by (repeat (first | exact Wk.refl _ | exact Wk.nilr _ | exact Wk.nilm | apply Wk.aggc | apply Wk.tupc | exact Wk.aggn | exact Wk.tupn)); first | done | fail) ?_ | refine LeH.skip ?_))⟩ (Nat.zero_le _) ?_
  intro i hi
  rcases Nat.lt_or_ge i 63 with hlt | hge
  · have e := bT_add hc1 hc2 hk1 hk2 (n := i) (by omega)
    rw [if_pos hlt] at e
    (repeat' (first | (refine iS ?_; refine iMu ?_; refine S.mapU ?_) | (refine iS ?_; refine iZ ?_; refine S.nilq (fun b hq => ?_)) | refine sv1 ?_ | (refine iS ?_; first | (refine iT ?_; first | refine S.store_one ?_ | refine S.store_whole ?_ | refine S.store_elem ?_ | refine S.store_field ?_) | (refine iY ?_; refine S.copy ?_) | (refine iMd ?_; refine S.mapD ?_) | (refine iC ?_; first | refine S.append1 (fun u => ?_) | refine S.append (fun u => ?_) | refine S.append_nil (fun u => ?_)) | (refine iN ?_; first | refine S.build1 (fun u => ?_) | refine S.build2 (fun u => ?_) | refine S.build3 (fun u => ?_) | refine S.build0 (fun u => ?_)) | (refine iK ?_; refine S.make (fun u => ?_))) | (refine svg (fun hg => ?_) (fun hg => ?_) <;> try (exfalso; first | omega | contradiction)) | (refine svc (fun hc => ?_) (fun hc => ?_) <;> try (exfalso; first | omega | contradiction)) | refine sv2 ?_ | refine svh (fun hb => ?_) (fun hb => ?_) | refine svb (fun b => ?_) | refine sva ?_ | refine sv3 ?_))
    refine S.call ?_; refine (add_c (bT c k i) c (c * 1048576 + ((i : Int) + 1)) 1 _ (bT_nd _ _ _) (by rw [bT_len]; omega) (by omega) (by omega) (bT_nz hk1)).mono ?_; rintro r h' ⟨rfl, hh⟩; subst hh
    rw [e]
    (repeat' (first | (refine iS ?_; refine iMu ?_; refine S.mapU ?_) | (refine iS ?_; refine iZ ?_; refine S.nilq (fun b hq => ?_)) | refine sv1 ?_ | (refine iS ?_; first | (refine iT ?_; first | refine S.store_one ?_ | refine S.store_whole ?_ | refine S.store_elem ?_ | refine S.store_field ?_) | (refine iY ?_; refine S.copy ?_) | (refine iMd ?_; refine S.mapD ?_) | (refine iC ?_; first | refine S.append1 (fun u => ?_) | refine S.append (fun u => ?_) | refine S.append_nil (fun u => ?_)) | (refine iN ?_; first | refine S.build1 (fun u => ?_) | refine S.build2 (fun u => ?_) | refine S.build3 (fun u => ?_) | refine S.build0 (fun u => ?_)) | (refine iK ?_; refine S.make (fun u => ?_))) | (refine svg (fun hg => ?_) (fun hg => ?_) <;> try (exfalso; first | omega | contradiction)) | (refine svc (fun hc => ?_) (fun hc => ?_) <;> try (exfalso; first | omega | contradiction)) | refine sv2 ?_ | refine svh (fun hb => ?_) (fun hb => ?_) | refine svb (fun b => ?_) | refine sva ?_ | refine sv3 ?_))
    exact ⟨i + 1, hlt, ⟨rfl, (by repeat (first | exact LeT.nil | refine LeT.cons rfl ?_ | refine LeT.consw rfl (by (repeat (first | exact Wk.refl _ | exact Wk.nilr _ | exact Wk.nilm | apply Wk.aggc | apply Wk.tupc | exact Wk.aggn | exact Wk.tupn)); first | done | fail) ?_)), (by repeat (first | exact LeH.refl _ | exact LeH.nil _ | refine LeH.cons (by (fail_if_success (apply tkG)); (repeat (first | exact Tk.here | apply Tk.there)); first | done | fail) ?_ | refine LeH.boxw (by (fail_if_success (apply tkG)); (repeat (first | exact Tk.here | apply Tk.there)); first | done | fail) (by (repeat (first | exact Wk.refl _ | exact Wk.nilr _ | exact Wk.nilm | apply Wk.aggc | apply Wk.tupc | exact Wk.aggn | exact Wk.tupn)); first | done | fail) ?_ | refine LeH.skip ?_))⟩, by omega⟩
  obtain rfl : i = 63 := by omega
  have e63 := bT_63 (c := c) (k := k) hc1 hc2
  (repeat' (first | (refine iS ?_; refine iMu ?_; refine S.mapU ?_) | (refine iS ?_; refine iZ ?_; refine S.nilq (fun b hq => ?_)) | refine sv1 ?_ | (refine iS ?_; first | (refine iT ?_; first | refine S.store_one ?_ | refine S.store_whole ?_ | refine S.store_elem ?_ | refine S.store_field ?_) | (refine iY ?_; refine S.copy ?_) | (refine iMd ?_; refine S.mapD ?_) | (refine iC ?_; first | refine S.append1 (fun u => ?_) | refine S.append (fun u => ?_) | refine S.append_nil (fun u => ?_)) | (refine iN ?_; first | refine S.build1 (fun u => ?_) | refine S.build2 (fun u => ?_) | refine S.build3 (fun u => ?_) | refine S.build0 (fun u => ?_)) | (refine iK ?_; refine S.make (fun u => ?_))) | (refine svg (fun hg => ?_) (fun hg => ?_) <;> try (exfalso; first | omega | contradiction)) | (refine svc (fun hc => ?_) (fun hc => ?_) <;> try (exfalso; first | omega | contradiction)) | refine sv2 ?_ | refine svh (fun hb => ?_) (fun hb => ?_) | refine svb (fun b => ?_) | refine sva ?_ | refine sv3 ?_))
  refine S.call ?_; refine (add_c (bT c k 63) c (c * 1048576 + 64) 1 _ (bT_nd _ _ _) (by rw [bT_len]; omega) (by omega) (by omega) (bT_nz hk1)).mono ?_; rintro r h' ⟨rfl, hh⟩; subst hh
  rw [e63]
  (repeat' (first | (refine iS ?_; refine iMu ?_; refine S.mapU ?_) | (refine iS ?_; refine iZ ?_; refine S.nilq (fun b hq => ?_)) | refine sv1 ?_ | (refine iS ?_; first | (refine iT ?_; first | refine S.store_one ?_ | refine S.store_whole ?_ | refine S.store_elem ?_ | refine S.store_field ?_) | (refine iY ?_; refine S.copy ?_) | (refine iMd ?_; refine S.mapD ?_) | (refine iC ?_; first | refine S.append1 (fun u => ?_) | refine S.append (fun u => ?_) | refine S.append_nil (fun u => ?_)) | (refine iN ?_; first | refine S.build1 (fun u => ?_) | refine S.build2 (fun u => ?_) | refine S.build3 (fun u => ?_) | refine S.build0 (fun u => ?_)) | (refine iK ?_; refine S.make (fun u => ?_))) | (refine svg (fun hg => ?_) (fun hg => ?_) <;> try (exfalso; first | omega | contradiction)) | (refine svc (fun hc => ?_) (fun hc => ?_) <;> try (exfalso; first | omega | contradiction)) | refine sv2 ?_ | refine svh (fun hb => ?_) (fun hb => ?_) | refine svb (fun b => ?_) | refine sva ?_ | refine sv3 ?_))
  refine W.loop (J := fun i : Nat => ⟨111, [(10, .val (.int .i64 ((i : Int) + 1))), (7, .val (.pointer (some ⟨b7, 0, none⟩))), (6, .val (.int .i64 k)), (5, .val (.int .i64 c)), (4, .val (.bool false))], .box b7 (encT (bT c k i)).cells 24 :: h⟩)
    (Φ := fun i => 63 ≤ i ∧ i ≤ 1024) (μ := fun i => 1024 - i) 63 ⟨rfl, (by repeat (first | exact LeT.nil | refine LeT.cons rfl ?_ | refine LeT.consw rfl (by (repeat (first | exact Wk.refl _ | exact Wk.nilr _ | exact Wk.nilm | apply Wk.aggc | apply Wk.tupc | exact Wk.aggn | exact Wk.tupn)); first | done | fail) ?_)), (by repeat (first | exact LeH.refl _ | exact LeH.nil _ | refine LeH.cons (by (fail_if_success (apply tkG)); (repeat (first | exact Tk.here | apply Tk.there)); first | done | fail) ?_ | refine LeH.boxw (by (fail_if_success (apply tkG)); (repeat (first | exact Tk.here | apply Tk.there)); first | done | fail) (by (repeat (first | exact Wk.refl _ | exact Wk.nilr _ | exact Wk.nilm | apply Wk.aggc | apply Wk.tupc | exact Wk.aggn | exact Wk.tupn)); first | done | fail) ?_ | refine LeH.skip ?_))⟩ ⟨Nat.le_refl _, by omega⟩ ?_
  rintro i ⟨hi1, hi2⟩
  rcases Nat.lt_or_ge i 1024 with hlt | hge
  · have e := bT_add hc1 hc2 hk1 hk2 (n := i) (by omega)
    rw [if_neg (by omega)] at e
    (repeat' (first | (refine iS ?_; refine iMu ?_; refine S.mapU ?_) | (refine iS ?_; refine iZ ?_; refine S.nilq (fun b hq => ?_)) | refine sv1 ?_ | (refine iS ?_; first | (refine iT ?_; first | refine S.store_one ?_ | refine S.store_whole ?_ | refine S.store_elem ?_ | refine S.store_field ?_) | (refine iY ?_; refine S.copy ?_) | (refine iMd ?_; refine S.mapD ?_) | (refine iC ?_; first | refine S.append1 (fun u => ?_) | refine S.append (fun u => ?_) | refine S.append_nil (fun u => ?_)) | (refine iN ?_; first | refine S.build1 (fun u => ?_) | refine S.build2 (fun u => ?_) | refine S.build3 (fun u => ?_) | refine S.build0 (fun u => ?_)) | (refine iK ?_; refine S.make (fun u => ?_))) | (refine svg (fun hg => ?_) (fun hg => ?_) <;> try (exfalso; first | omega | contradiction)) | (refine svc (fun hc => ?_) (fun hc => ?_) <;> try (exfalso; first | omega | contradiction)) | refine sv2 ?_ | refine svh (fun hb => ?_) (fun hb => ?_) | refine svb (fun b => ?_) | refine sva ?_ | refine sv3 ?_))
    refine S.call ?_; refine (add_c (bT c k i) c (c * 1048576 + ((i : Int) + 1)) k _ (bT_nd _ _ _) (by rw [bT_len]; omega) (by omega) (by omega) (bT_nz hk1)).mono ?_; rintro r h' ⟨rfl, hh⟩; subst hh
    rw [e]
    (repeat' (first | (refine iS ?_; refine iMu ?_; refine S.mapU ?_) | (refine iS ?_; refine iZ ?_; refine S.nilq (fun b hq => ?_)) | refine sv1 ?_ | (refine iS ?_; first | (refine iT ?_; first | refine S.store_one ?_ | refine S.store_whole ?_ | refine S.store_elem ?_ | refine S.store_field ?_) | (refine iY ?_; refine S.copy ?_) | (refine iMd ?_; refine S.mapD ?_) | (refine iC ?_; first | refine S.append1 (fun u => ?_) | refine S.append (fun u => ?_) | refine S.append_nil (fun u => ?_)) | (refine iN ?_; first | refine S.build1 (fun u => ?_) | refine S.build2 (fun u => ?_) | refine S.build3 (fun u => ?_) | refine S.build0 (fun u => ?_)) | (refine iK ?_; refine S.make (fun u => ?_))) | (refine svg (fun hg => ?_) (fun hg => ?_) <;> try (exfalso; first | omega | contradiction)) | (refine svc (fun hc => ?_) (fun hc => ?_) <;> try (exfalso; first | omega | contradiction)) | refine sv2 ?_ | refine svh (fun hb => ?_) (fun hb => ?_) | refine svb (fun b => ?_) | refine sva ?_ | refine sv3 ?_))
    exact ⟨i + 1, ⟨by omega, hlt⟩, ⟨rfl, (by repeat (first | exact LeT.nil | refine LeT.cons rfl ?_ | refine LeT.consw rfl (by (repeat (first | exact Wk.refl _ | exact Wk.nilr _ | exact Wk.nilm | apply Wk.aggc | apply Wk.tupc | exact Wk.aggn | exact Wk.tupn)); first | done | fail) ?_)), (by repeat (first | exact LeH.refl _ | exact LeH.nil _ | refine LeH.cons (by (fail_if_success (apply tkG)); (repeat (first | exact Tk.here | apply Tk.there)); first | done | fail) ?_ | refine LeH.boxw (by (fail_if_success (apply tkG)); (repeat (first | exact Tk.here | apply Tk.there)); first | done | fail) (by (repeat (first | exact Wk.refl _ | exact Wk.nilr _ | exact Wk.nilm | apply Wk.aggc | apply Wk.tupc | exact Wk.aggn | exact Wk.tupn)); first | done | fail) ?_ | refine LeH.skip ?_))⟩, by omega⟩
  obtain rfl : i = 1024 := by omega
  have e2 := bT_1025 hc1 hc2 hk1 hk2
  have e3 := bT_twice hc1 hc2 hk1 hk2
  have e4 : (ofF (bT c k 1024) c).length = 1024 := by
    rw [ofF_all, bT_len]
    intro p hp
    obtain ⟨j, hj, rfl⟩ := bT_mem hp
    refine ⟨bT_mine hc1 hc2 (by omega) (by omega), ?_⟩
    simp only
    split <;> omega
  (repeat' (first | (refine iS ?_; refine iMu ?_; refine S.mapU ?_) | (refine iS ?_; refine iZ ?_; refine S.nilq (fun b hq => ?_)) | refine sv1 ?_ | (refine iS ?_; first | (refine iT ?_; first | refine S.store_one ?_ | refine S.store_whole ?_ | refine S.store_elem ?_ | refine S.store_field ?_) | (refine iY ?_; refine S.copy ?_) | (refine iMd ?_; refine S.mapD ?_) | (refine iC ?_; first | refine S.append1 (fun u => ?_) | refine S.append (fun u => ?_) | refine S.append_nil (fun u => ?_)) | (refine iN ?_; first | refine S.build1 (fun u => ?_) | refine S.build2 (fun u => ?_) | refine S.build3 (fun u => ?_) | refine S.build0 (fun u => ?_)) | (refine iK ?_; refine S.make (fun u => ?_))) | (refine svg (fun hg => ?_) (fun hg => ?_) <;> try (exfalso; first | omega | contradiction)) | (refine svc (fun hc => ?_) (fun hc => ?_) <;> try (exfalso; first | omega | contradiction)) | refine sv2 ?_ | refine svh (fun hb => ?_) (fun hb => ?_) | refine svb (fun b => ?_) | refine sva ?_ | refine sv3 ?_))
  refine S.call ?_; refine (add_c (bT c k 1024) c (c * 1048576 + 1025) k _ (bT_nd _ _ _) (by rw [bT_len]; omega) (by omega) (by omega) (bT_nz hk1)).mono ?_; rintro r h' ⟨rfl, hh⟩; subst hh
  rw [e2]
  (repeat' (first | (refine iS ?_; refine iMu ?_; refine S.mapU ?_) | (refine iS ?_; refine iZ ?_; refine S.nilq (fun b hq => ?_)) | refine sv1 ?_ | (refine iS ?_; first | (refine iT ?_; first | refine S.store_one ?_ | refine S.store_whole ?_ | refine S.store_elem ?_ | refine S.store_field ?_) | (refine iY ?_; refine S.copy ?_) | (refine iMd ?_; refine S.mapD ?_) | (refine iC ?_; first | refine S.append1 (fun u => ?_) | refine S.append (fun u => ?_) | refine S.append_nil (fun u => ?_)) | (refine iN ?_; first | refine S.build1 (fun u => ?_) | refine S.build2 (fun u => ?_) | refine S.build3 (fun u => ?_) | refine S.build0 (fun u => ?_)) | (refine iK ?_; refine S.make (fun u => ?_))) | (refine svg (fun hg => ?_) (fun hg => ?_) <;> try (exfalso; first | omega | contradiction)) | (refine svc (fun hc => ?_) (fun hc => ?_) <;> try (exfalso; first | omega | contradiction)) | refine sv2 ?_ | refine svh (fun hb => ?_) (fun hb => ?_) | refine svb (fun b => ?_) | refine sva ?_ | refine sv3 ?_))
  refine S.call ?_; refine (add_c (bT c k 1024) c (c * 1048576 + 1) k _ (bT_nd _ _ _) (by rw [bT_len]; omega) (by omega) (by omega) (bT_nz hk1)).mono ?_; rintro r h' ⟨rfl, hh⟩; subst hh
  rw [e3]
  (repeat' (first | (refine iS ?_; refine iMu ?_; refine S.mapU ?_) | (refine iS ?_; refine iZ ?_; refine S.nilq (fun b hq => ?_)) | refine sv1 ?_ | (refine iS ?_; first | (refine iT ?_; first | refine S.store_one ?_ | refine S.store_whole ?_ | refine S.store_elem ?_ | refine S.store_field ?_) | (refine iY ?_; refine S.copy ?_) | (refine iMd ?_; refine S.mapD ?_) | (refine iC ?_; first | refine S.append1 (fun u => ?_) | refine S.append (fun u => ?_) | refine S.append_nil (fun u => ?_)) | (refine iN ?_; first | refine S.build1 (fun u => ?_) | refine S.build2 (fun u => ?_) | refine S.build3 (fun u => ?_) | refine S.build0 (fun u => ?_)) | (refine iK ?_; refine S.make (fun u => ?_))) | (refine svg (fun hg => ?_) (fun hg => ?_) <;> try (exfalso; first | omega | contradiction)) | (refine svc (fun hc => ?_) (fun hc => ?_) <;> try (exfalso; first | omega | contradiction)) | refine sv2 ?_ | refine svh (fun hb => ?_) (fun hb => ?_) | refine svb (fun b => ?_) | refine sva ?_ | refine sv3 ?_))
  have hO : ∀ p ∈ bT c k 1024, 0 ≤ p.1 ∧ p.1 ≤ 4294967295 ∧ 1 ≤ p.2 ∧ p.2 ≤ 4 := by
    intro p hp
    obtain ⟨j, hj, rfl⟩ := bT_mem hp
    refine ⟨by simp only; omega, by simp only; omega, ?_, ?_⟩ <;> (simp only; split <;> omega)
  refine S.call ?_; refine (awake_c _).mono ?_; rintro r h' ⟨rfl, hh⟩; subst hh
  (repeat' (first | (refine iS ?_; refine iMu ?_; refine S.mapU ?_) | (refine iS ?_; refine iZ ?_; refine S.nilq (fun b hq => ?_)) | refine sv1 ?_ | (refine iS ?_; first | (refine iT ?_; first | refine S.store_one ?_ | refine S.store_whole ?_ | refine S.store_elem ?_ | refine S.store_field ?_) | (refine iY ?_; refine S.copy ?_) | (refine iMd ?_; refine S.mapD ?_) | (refine iC ?_; first | refine S.append1 (fun u => ?_) | refine S.append (fun u => ?_) | refine S.append_nil (fun u => ?_)) | (refine iN ?_; first | refine S.build1 (fun u => ?_) | refine S.build2 (fun u => ?_) | refine S.build3 (fun u => ?_) | refine S.build0 (fun u => ?_)) | (refine iK ?_; refine S.make (fun u => ?_))) | (refine svg (fun hg => ?_) (fun hg => ?_) <;> try (exfalso; first | omega | contradiction)) | (refine svc (fun hc => ?_) (fun hc => ?_) <;> try (exfalso; first | omega | contradiction)) | refine sv2 ?_ | refine svh (fun hb => ?_) (fun hb => ?_) | refine svb (fun b => ?_) | refine sva ?_ | refine sv3 ?_))
  refine S.call ?_; refine (len_c1 (bT c k 1024) _).mono ?_; rintro r h' ⟨rfl, hh⟩; subst hh
  rw [bT_len]
  (repeat' (first | (refine iS ?_; refine iMu ?_; refine S.mapU ?_) | (refine iS ?_; refine iZ ?_; refine S.nilq (fun b hq => ?_)) | refine sv1 ?_ | (refine iS ?_; first | (refine iT ?_; first | refine S.store_one ?_ | refine S.store_whole ?_ | refine S.store_elem ?_ | refine S.store_field ?_) | (refine iY ?_; refine S.copy ?_) | (refine iMd ?_; refine S.mapD ?_) | (refine iC ?_; first | refine S.append1 (fun u => ?_) | refine S.append (fun u => ?_) | refine S.append_nil (fun u => ?_)) | (refine iN ?_; first | refine S.build1 (fun u => ?_) | refine S.build2 (fun u => ?_) | refine S.build3 (fun u => ?_) | refine S.build0 (fun u => ?_)) | (refine iK ?_; refine S.make (fun u => ?_))) | (refine svg (fun hg => ?_) (fun hg => ?_) <;> try (exfalso; first | omega | contradiction)) | (refine svc (fun hc => ?_) (fun hc => ?_) <;> try (exfalso; first | omega | contradiction)) | refine sv2 ?_ | refine svh (fun hb => ?_) (fun hb => ?_) | refine svb (fun b => ?_) | refine sva ?_ | refine sv3 ?_))
  refine S.call ?_; refine (of_c (bT c k 1024) c _ (by rw [bT_len]; omega) hO).mono ?_; rintro r h' ⟨rfl, hh⟩; subst hh
  (repeat' (first | (refine iS ?_; refine iMu ?_; refine S.mapU ?_) | (refine iS ?_; refine iZ ?_; refine S.nilq (fun b hq => ?_)) | refine sv1 ?_ | (refine iS ?_; first | (refine iT ?_; first | refine S.store_one ?_ | refine S.store_whole ?_ | refine S.store_elem ?_ | refine S.store_field ?_) | (refine iY ?_; refine S.copy ?_) | (refine iMd ?_; refine S.mapD ?_) | (refine iC ?_; first | refine S.append1 (fun u => ?_) | refine S.append (fun u => ?_) | refine S.append_nil (fun u => ?_)) | (refine iN ?_; first | refine S.build1 (fun u => ?_) | refine S.build2 (fun u => ?_) | refine S.build3 (fun u => ?_) | refine S.build0 (fun u => ?_)) | (refine iK ?_; refine S.make (fun u => ?_))) | (refine svg (fun hg => ?_) (fun hg => ?_) <;> try (exfalso; first | omega | contradiction)) | (refine svc (fun hc => ?_) (fun hc => ?_) <;> try (exfalso; first | omega | contradiction)) | refine sv2 ?_ | refine svh (fun hb => ?_) (fun hb => ?_) | refine svb (fun b => ?_) | refine sva ?_ | refine sv3 ?_))
  refine fin_r (h' := _) ⟨?_, rfl⟩
  rw [e4]; rfl
theorem bounds_row : ∀ l, FitAll maxLen [.int .u8, .int .u8] l →
    ACalls Try.prog 3 l [] (fun r h' => r = .val (.bool true)) := by
  rintro l ⟨x, _, rfl, hx, y, _, rfl, hy, rfl⟩
  obtain ⟨n, rfl, hn⟩ := fit_int hx
  obtain ⟨m, rfl, hm⟩ := fit_int hy
  have a1 := wf_u8 hn
  have a2 := wf_u8 hm
  exact (bounds_c n m [] a1.1 a1.2 a2.1 a2.2).mono fun r h' h => h.1
end Go.Proofs.Ytmhncankbgjmbaa
