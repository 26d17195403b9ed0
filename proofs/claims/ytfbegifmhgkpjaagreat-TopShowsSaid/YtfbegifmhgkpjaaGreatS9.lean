import Derived.Test.YtfbegifmhgkpjaaGreatS8
namespace Go.Proofs.YtfbegifmhgkpjaaGreat
open Go Go.VM Go.Sort
attribute [local irreducible] PurV Pur Step RL W D ACalls Then InBlock Fini
set_option linter.unusedVariables false
set_option linter.unusedSimpArgs false
set_option maxHeartbeats 20000000
theorem len_of_perm {a b : Nat} {l m : List Int} (h : PermIn a b l.toArray m.toArray) : m.length = l.length := by have := h.1; simpa using this
set_option maxRecDepth 100000 in
theorem pdq_c : ∀ (N : Nat) (l : List Int) (a b : Nat) (limit : Int) (v : Value) (h : Heap), b - a ≤ N → a ≤ b → b ≤ l.length → l.length < 1048576 → Go.Sort.Below ltInt a b l.toArray → 0 ≤ limit ∧ limit ≤ 64 →
    ACalls Tryz.prog 138 [.val v, .val (.int .i64 (a : Int)), .val (.int .i64 (b : Int)), .val (.int .i64 limit)] (.own v 1 (ints .i64 l) 3 :: h)
      (fun r h' => r = .tup [] ∧ ∃ l', h' = .own v 1 (ints .i64 l') 3 :: h ∧ PermIn a b l.toArray l'.toArray ∧ SortedIn ltInt a b l'.toArray) := by
  intro N
  induction N using Nat.strongRecOn with
  | _ N ih =>
  intro l a b limit v h hN hab hb hn hB hlim
  have hS := swo_ltInt
  refine ACalls.intro Tryz.func138 rfl Tryz.ntmps138 Tryz.results138 (Nat.le_of_ble_eq_true rfl) ?_
  (repeat' (first|refine svz ⟨fun b hq=>?_⟩|refine svW ⟨?_⟩|refine svu ⟨fun u=>?_⟩|(refine svG (fun hc=>?_) (fun hc=>?_)<;>try exact svx)|refine svh (fun hb=>?_) (fun hb=>?_)|refine svb (fun b=>?_)|fail))
  refine W.loop (J := fun x : Nat × Nat × Int × Bool × Bool × List Int => ⟨134, [(9, .val (.bool x.2.2.2.2.1)), (8, .val (.bool x.2.2.2.1)), (3, .val (.int .i64 x.2.2.1)), (2, .val (.int .i64 (x.2.1 : Int))), (1, .val (.int .i64 (x.1 : Int))), (0, .val v)], .own v 1 (ints .i64 x.2.2.2.2.2) 3 :: h⟩)
    (Φ := fun x => x.1 ≤ x.2.1 ∧ x.2.1 ≤ l.length ∧ x.2.1 - x.1 ≤ N ∧ x.2.2.2.2.2.length = l.length ∧ Go.Sort.Below ltInt x.1 x.2.1 x.2.2.2.2.2.toArray ∧ (0 ≤ x.2.2.1 ∧ x.2.2.1 ≤ 64) ∧ ∀ R, PermIn x.1 x.2.1 x.2.2.2.2.2.toArray R → SortedIn ltInt x.1 x.2.1 R → PermIn a b l.toArray R ∧ SortedIn ltInt a b R)
    (μ := fun x => x.2.1 - x.1) (a, b, limit, true, true, l) lee ⟨hab, hb, hN, rfl, hB, hlim, fun R h1 h2 => ⟨h1, h2⟩⟩ ?_
  rintro ⟨a', b', lim, wb, wp, m⟩ ⟨w1, w2, w3, w4, w5, w6, w7⟩
  dsimp only at w1 w2 w3 w4 w5 w6 w7 ⊢
  have wsz : b' ≤ m.toArray.size := by simp; omega
  rcases Nat.lt_or_ge 12 (b' - a') with h12 | h12
  · by_cases hl0 : lim = 0
    · subst hl0
      (repeat' (first|refine svz ⟨fun b hq=>?_⟩|refine svW ⟨?_⟩|refine svu ⟨fun u=>?_⟩|(refine svG (fun hc=>?_) (fun hc=>?_)<;>try exact svx)|refine svh (fun hb=>?_) (fun hb=>?_)|refine svb (fun b=>?_)|fail))
      refine S.call ?_
      refine (heap_c m a' b' v h (by omega) (by omega) (by omega)).mono ?_
      rintro r h' ⟨rfl, m', rfl, hm'⟩
      (repeat' (first|refine svz ⟨fun b hq=>?_⟩|refine svW ⟨?_⟩|refine svu ⟨fun u=>?_⟩|(refine svG (fun hc=>?_) (fun hc=>?_)<;>try exact svx)|refine svh (fun hb=>?_) (fun hb=>?_)|refine svb (fun b=>?_)|fail))
      obtain ⟨k1, k2⟩ := heapSort_holds hS m.toArray a' b' (by omega) wsz
      rw [← hm'] at k1 k2
      obtain ⟨z1, z2⟩ := w7 _ k1 k2
      exact fin_r (h' := .own v 1 (ints .i64 m') 3 :: h) ⟨rfl, m', rfl, z1, z2⟩
    · (repeat' (first | refine svz ⟨fun b hq=>?_⟩|refine sw1 ?_|refine svs ⟨?_⟩|refine sv2 ?_|refine svu ⟨fun u=>?_⟩|(refine svG (fun hc=>?_) (fun hc=>?_)<;>try exact svx)|refine svh (fun hb=>?_) (fun hb=>?_)|refine svb (fun b=>?_) | fail))
      refine W.seq ?_
      (repeat' (first | refine svz ⟨fun b hq=>?_⟩|refine sw1 ?_|refine svs ⟨?_⟩|refine sv2 ?_|refine svu ⟨fun u=>?_⟩|(refine svG (fun hc=>?_) (fun hc=>?_)<;>try exact svx)|refine svh (fun hb=>?_) (fun hb=>?_)|refine svb (fun b=>?_) | fail))
      refine W.seq ?_
      (repeat' (first | refine svz ⟨fun b hq=>?_⟩|refine sw1 ?_|refine svs ⟨?_⟩|refine sv2 ?_|refine svu ⟨fun u=>?_⟩|(refine svG (fun hc=>?_) (fun hc=>?_)<;>try exact svx)|refine svh (fun hb=>?_) (fun hb=>?_)|refine svb (fun b=>?_) | fail))
      refine W.mid (J := fun x : Int × List Int => ⟨134, [(10, .val (.int .i64 ((b' : Int) - (a' : Int)))), (9, .val (.bool wp)), (8, .val (.bool wb)), (3, .val (.int .i64 x.1)), (2, .val (.int .i64 (b' : Int))), (1, .val (.int .i64 (a' : Int))), (0, .val v)], .own v 1 (ints .i64 x.2) 3 :: h⟩) (Φ := fun x => (0 ≤ x.1 ∧ x.1 ≤ 64) ∧ PermIn a' b' m.toArray x.2.toArray) ?_ ?_
      · cases wb
        · (repeat' (first|refine svz ⟨fun b hq=>?_⟩|refine svW ⟨?_⟩|refine svu ⟨fun u=>?_⟩|(refine svG (fun hc=>?_) (fun hc=>?_)<;>try exact svx)|refine svh (fun hb=>?_) (fun hb=>?_)|refine svb (fun b=>?_)|fail))
          refine S.call ?_
          refine (brk_c m a' b' v h (by omega) (by omega) (by omega)).mono ?_
          rintro r h' ⟨rfl, m', rfl, hl', hm'⟩
          (repeat' (first|refine svz ⟨fun b hq=>?_⟩|refine svW ⟨?_⟩|refine svu ⟨fun u=>?_⟩|(refine svG (fun hc=>?_) (fun hc=>?_)<;>try exact svx)|refine svh (fun hb=>?_) (fun hb=>?_)|refine svb (fun b=>?_)|fail))
          exact ⟨(lim - 1, m'), ⟨by dsimp only; omega, hm'⟩, lee⟩
        · (repeat' (first|refine svz ⟨fun b hq=>?_⟩|refine svW ⟨?_⟩|refine svu ⟨fun u=>?_⟩|(refine svG (fun hc=>?_) (fun hc=>?_)<;>try exact svx)|refine svh (fun hb=>?_) (fun hb=>?_)|refine svb (fun b=>?_)|fail))
          exact ⟨(lim, m), ⟨w6, permIn_refl _ _ _⟩, lee⟩
      rintro ⟨lim1, m1⟩ ⟨hlim1, hp1⟩
      dsimp only at hlim1 hp1 ⊢
      have hl1 := len_of_perm hp1
      (repeat' (first|refine svz ⟨fun b hq=>?_⟩|refine svW ⟨?_⟩|refine svu ⟨fun u=>?_⟩|(refine svG (fun hc=>?_) (fun hc=>?_)<;>try exact svx)|refine svh (fun hb=>?_) (fun hb=>?_)|refine svb (fun b=>?_)|fail))
      refine S.call ?_
      refine (piv_c m1 a' b' v h (by omega) (by omega) (by omega)).mono ?_
      rintro r h' ⟨p, tt, rfl, hpa, hpb, hh⟩
      subst hh
      (repeat' (first | refine svz ⟨fun b hq=>?_⟩|refine sw1 ?_|refine svs ⟨?_⟩|refine sv2 ?_|refine svu ⟨fun u=>?_⟩|(refine svG (fun hc=>?_) (fun hc=>?_)<;>try exact svx)|refine svh (fun hb=>?_) (fun hb=>?_)|refine svb (fun b=>?_) | fail))
      refine W.mid (J := fun x : Nat × Int × List Int => ⟨134, [(10, .val (.int .i64 ((b' : Int) - (a' : Int)))), (12, .val (.int .i64 x.2.1)), (11, .val (.int .i64 (x.1 : Int))), (9, .val (.bool wp)), (8, .val (.bool wb)), (3, .val (.int .i64 lim1)), (2, .val (.int .i64 (b' : Int))), (1, .val (.int .i64 (a' : Int))), (0, .val v)], .own v 1 (ints .i64 x.2.2) 3 :: h⟩) (Φ := fun x => a' ≤ x.1 ∧ x.1 < b' ∧ PermIn a' b' m.toArray x.2.2.toArray) ?_ ?_
      · (repeat' (first|refine svz ⟨fun b hq=>?_⟩|refine svW ⟨?_⟩|refine svu ⟨fun u=>?_⟩|(refine svG (fun hc=>?_) (fun hc=>?_)<;>try exact svx)|refine svh (fun hb=>?_) (fun hb=>?_)|refine svb (fun b=>?_)|fail))
        · refine S.call ?_
          refine (rev_c m1 a' b' v h (by omega) (by omega) (by omega) (by omega)).mono ?_
          rintro r h' ⟨rfl, m', rfl, hm'⟩
          (repeat' (first|refine svz ⟨fun b hq=>?_⟩|refine svW ⟨?_⟩|refine svu ⟨fun u=>?_⟩|(refine svG (fun hc=>?_) (fun hc=>?_)<;>try exact svx)|refine svh (fun hb=>?_) (fun hb=>?_)|refine svb (fun b=>?_)|fail))
          exact ⟨((b' - 1) - (p - a'), 1, m'), ⟨by dsimp only; omega, by dsimp only; omega, by dsimp only; rw [hm']; exact permIn_trans _ _ _ _ _ hp1 (reverseRange_holds _ _ _ (by omega) (by simp; omega))⟩, by dsimp only; rw [show ((((b' - 1) - (p - a') : Nat)) : Int) = (b' : Int) - 1 - ((p : Int) - (a' : Int)) by omega]; exact lee⟩
        · exact ⟨(p, tt, m1), ⟨hpa, hpb, hp1⟩, lee⟩
      rintro ⟨p2, t2, m2⟩ ⟨hpa2, hpb2, hp2⟩
      dsimp only at hpa2 hpb2 hp2 ⊢
      clear hp1 hl1
      have hl2 := len_of_perm hp2
      have hB2 : Go.Sort.Below ltInt a' b' m2.toArray := w5.perm wsz hp2
      have hs2 : b' ≤ m2.toArray.size := by simp; omega
      refine W.mid (J := fun x : List Int => ⟨134, [(10, .val (.int .i64 ((b' : Int) - (a' : Int)))), (11, .val (.int .i64 (p2 : Int))), (9, .val (.bool wp)), (8, .val (.bool wb)), (3, .val (.int .i64 lim1)), (2, .val (.int .i64 (b' : Int))), (1, .val (.int .i64 (a' : Int))), (0, .val v)], .own v 1 (ints .i64 x) 3 :: h⟩) (Φ := fun x => PermIn a' b' m.toArray x.toArray) ?_ ?_
      · have hpis := partialInsertionSort_holds (lt := ltInt) hS m2.toArray a' b' (by omega) hs2 hB2
        cases wb
        · (repeat' (first|refine svz ⟨fun b hq=>?_⟩|refine svW ⟨?_⟩|refine svu ⟨fun u=>?_⟩|(refine svG (fun hc=>?_) (fun hc=>?_)<;>try exact svx)|refine svh (fun hb=>?_) (fun hb=>?_)|refine svb (fun b=>?_)|fail))
          exact ⟨m2, hp2, lee⟩
        cases wp
        · (repeat' (first|refine svz ⟨fun b hq=>?_⟩|refine svW ⟨?_⟩|refine svu ⟨fun u=>?_⟩|(refine svG (fun hc=>?_) (fun hc=>?_)<;>try exact svx)|refine svh (fun hb=>?_) (fun hb=>?_)|refine svb (fun b=>?_)|fail))
          exact ⟨m2, hp2, lee⟩
        (repeat' (first|refine svz ⟨fun b hq=>?_⟩|refine svW ⟨?_⟩|refine svu ⟨fun u=>?_⟩|(refine svG (fun hc=>?_) (fun hc=>?_)<;>try exact svx)|refine svh (fun hb=>?_) (fun hb=>?_)|refine svb (fun b=>?_)|fail))
        · refine S.call ?_
          refine (pis_c m2 a' b' v h (by omega) (by omega) (by omega)).mono ?_
          rintro r h' ⟨m', rfl, rfl, hl', hm'⟩
          rw [← hm'] at hpis
          cases hdone : (partialInsertionSort ltInt m2.toArray a' b').2
          · (repeat' (first|refine svz ⟨fun b hq=>?_⟩|refine svW ⟨?_⟩|refine svu ⟨fun u=>?_⟩|(refine svG (fun hc=>?_) (fun hc=>?_)<;>try exact svx)|refine svh (fun hb=>?_) (fun hb=>?_)|refine svb (fun b=>?_)|fail))
            exact ⟨m', permIn_trans _ _ _ _ _ hp2 hpis.1, lee⟩
          · (repeat' (first|refine svz ⟨fun b hq=>?_⟩|refine svW ⟨?_⟩|refine svu ⟨fun u=>?_⟩|(refine svG (fun hc=>?_) (fun hc=>?_)<;>try exact svx)|refine svh (fun hb=>?_) (fun hb=>?_)|refine svb (fun b=>?_)|fail))
            obtain ⟨z1, z2⟩ := w7 _ (permIn_trans _ _ _ _ _ hp2 hpis.1) (hpis.2 hdone)
            exact fin_r (h' := .own v 1 (ints .i64 m') 3 :: h) ⟨rfl, m', rfl, z1, z2⟩
        · exact ⟨m2, hp2, lee⟩
      intro m3 hp3
      clear hp2 hl2 hB2 hs2
      have hl3 := len_of_perm hp3
      have hB3 : Go.Sort.Below ltInt a' b' m3.toArray := w5.perm wsz hp3
      have hs3 : b' ≤ m3.toArray.size := by simp; omega
      have w8 : ∀ R, PermIn a' b' m3.toArray R → SortedIn ltInt a' b' R → PermIn a b l.toArray R ∧ SortedIn ltInt a b R := fun R h1 h2 => w7 R (permIn_trans _ _ _ _ _ hp3 h1) h2
      have hix : (((a' : Nat) : Int) - 1).toNat = a' - 1 := by omega
      have hq0 : p2 < m3.length := by omega
      refine W.seq ?_
      refine W.mid (J := fun x : Bool => ⟨134, [(87, .val (.bool x)), (10, .val (.int .i64 ((b' : Int) - (a' : Int)))), (11, .val (.int .i64 (p2 : Int))), (9, .val (.bool wp)), (8, .val (.bool wb)), (3, .val (.int .i64 lim1)), (2, .val (.int .i64 (b' : Int))), (1, .val (.int .i64 (a' : Int))), (0, .val v)], .own v 1 (ints .i64 m3) 3 :: h⟩) (Φ := fun x => x = decide (0 < a' ∧ ltInt (m3.getD (a' - 1) 0) (m3.getD p2 0) = false)) ?_ ?_
      · rcases Nat.lt_or_ge 0 a' with ha0 | ha0
        · have hq1 : a' - 1 < m3.length := by omega
          refine W.dend (.ro (.done _)) ?_
          refine D.T 0 ?_; refine D.T 1 ?_; refine D.T 2 ?_; refine D.T 3 ?_; refine D.T 4 ?_; refine D.T 5 ?_; refine D.T 6 ?_; refine D.T 7 ?_; refine D.T 8 ?_; refine D.T 9 ?_; refine D.T 10 ?_; refine D.T 11 ?_
          refine D.B1 12 ?_
          rw [getD_at (l := m3), getD_at (l := m3), hix]
          refine S.call ?_
          refine (less_c (m3.getD (a' - 1) 0) (m3.getD p2 0) _).mono ?_
          rintro r h' ⟨rfl, hh⟩
          subst hh
          refine D.V 13 ?_; refine D.V 14 ?_
          refine D.E ?_
          refine thn ?_
          exact ⟨decide (¬ m3.getD (a' - 1) 0 < m3.getD p2 0), by unfold ltInt; by_cases hc : m3.getD (a' - 1) 0 < m3.getD p2 0 <;> simp [hc, ha0], lee⟩
        · refine W.dend (.done _) ?_
          refine D.T 0 ?_; refine D.T 1 ?_; refine D.T 2 ?_; refine D.S 3 ?_; refine D.S 4 ?_; refine D.S 5 ?_; refine D.S 6 ?_; refine D.S 7 ?_; refine D.S 8 ?_; refine D.S 9 ?_; refine D.S 10 ?_; refine D.S 11 ?_; refine D.S 12 ?_; refine D.S 13 ?_; refine D.T 14 ?_
          refine D.E ?_
          refine thn ?_
          exact ⟨false, by rw [decide_eq_false (by omega)], lee⟩
      rintro x rfl
      by_cases hq : 0 < a' ∧ ltInt (m3.getD (a' - 1) 0) (m3.getD p2 0) = false
      · rw [decide_eq_true hq]
        obtain ⟨r1, r2, r3, r4, r5⟩ := round_eq hS (partitionEqual_holds (lt := ltInt)) (d3 := m3.toArray) (a := a') (b := b') (pivot := p2) hq.1 hpa2 hpb2 hs3 hB3 (by rw [arr_get, arr_get]; exact hq.2) (mid := (partitionEqual ltInt m3.toArray a' b' p2).1) (d4 := (partitionEqual ltInt m3.toArray a' b' p2).2) rfl
        (repeat' (first|refine svz ⟨fun b hq=>?_⟩|refine svW ⟨?_⟩|refine svu ⟨fun u=>?_⟩|(refine svG (fun hc=>?_) (fun hc=>?_)<;>try exact svx)|refine svh (fun hb=>?_) (fun hb=>?_)|refine svb (fun b=>?_)|fail))
        refine S.call ?_
        refine (peq_c m3 a' b' p2 v h hpa2 hpb2 (by omega) (by omega)).mono ?_
        rintro r h' ⟨m', rfl, rfl, hm'⟩
        rw [← hm'] at r3 r4 r5
        generalize (partitionEqual ltInt m3.toArray a' b' p2).1 = mid at *
        (repeat' (first|refine svz ⟨fun b hq=>?_⟩|refine svW ⟨?_⟩|refine svu ⟨fun u=>?_⟩|(refine svG (fun hc=>?_) (fun hc=>?_)<;>try exact svx)|refine svh (fun hb=>?_) (fun hb=>?_)|refine svb (fun b=>?_)|fail))
        exact ⟨(mid, b', lim1, wb, wp, m'), ⟨r2, w2, by dsimp only; omega, by dsimp only; simp at r3; omega, r4, hlim1, fun R h1 h2 => by obtain ⟨y1, y2⟩ := r5 R h1 h2; exact w8 R y1 y2⟩, lee, by dsimp only; omega⟩
      · rw [decide_eq_false hq]
        obtain ⟨r1, r2, r3, r4, r5, r6, r7⟩ := round_part hS (partition_holds (lt := ltInt)) (d3 := m3.toArray) (a := a') (b := b') (pivot := p2) hpa2 hpb2 hs3 hB3 (mid := (partition ltInt m3.toArray a' b' p2).1) (ap := (partition ltInt m3.toArray a' b' p2).2.1) (d4 := (partition ltInt m3.toArray a' b' p2).2.2) rfl
        (repeat' (first|refine svz ⟨fun b hq=>?_⟩|refine svW ⟨?_⟩|refine svu ⟨fun u=>?_⟩|(refine svG (fun hc=>?_) (fun hc=>?_)<;>try exact svx)|refine svh (fun hb=>?_) (fun hb=>?_)|refine svb (fun b=>?_)|fail))
        refine S.call ?_
        refine (part_c m3 a' b' p2 v h hpa2 hpb2 (by omega) (by omega)).mono ?_
        rintro r h' ⟨m', rfl, rfl, hm'⟩
        rw [← hm'] at r3 r4 r5 r6 r7
        generalize (partition ltInt m3.toArray a' b' p2).1 = mid at *
        generalize (partition ltInt m3.toArray a' b' p2).2.1 = ap at *
        have hl4 : m'.length = l.length := by simp at r3; omega
        have hs4 : b' ≤ m'.toArray.size := by simp; omega
        (repeat' (first|refine svz ⟨fun b hq=>?_⟩|refine svW ⟨?_⟩|refine svu ⟨fun u=>?_⟩|(refine svG (fun hc=>?_) (fun hc=>?_)<;>try exact svx)|refine svh (fun hb=>?_) (fun hb=>?_)|refine svb (fun b=>?_)|fail))
        · refine S.call ?_
          refine (ih (mid - a') (by omega) m' a' mid lim1 v h (Nat.le_refl _) r1 (by omega) (by omega) r4 hlim1).mono ?_
          rintro r h' ⟨rfl, m4, rfl, hp4, hs5⟩
          obtain ⟨q1, q2⟩ := r6 _ hp4 hs5
          have hl5 := len_of_perm hp4
          (repeat' (first|refine svz ⟨fun b hq=>?_⟩|refine svW ⟨?_⟩|refine svu ⟨fun u=>?_⟩|(refine svG (fun hc=>?_) (fun hc=>?_)<;>try exact svx)|refine svh (fun hb=>?_) (fun hb=>?_)|refine svb (fun b=>?_)|fail))
          exact ⟨(mid + 1, b', lim1, _, ap, m4), ⟨by dsimp only; omega, w2, by dsimp only; omega, by dsimp only; omega, q1, hlim1, fun R h1 h2 => by obtain ⟨y1, y2⟩ := q2 R h1 h2; exact w8 R y1 y2⟩, lee, by dsimp only; omega⟩
        · refine S.call ?_
          rw [show ((mid : Int) + 1) = ((mid + 1 : Nat) : Int) by omega]
          refine (ih (b' - (mid + 1)) (by omega) m' (mid + 1) b' lim1 v h (Nat.le_refl _) (by omega) (by omega) (by omega) r5 hlim1).mono ?_
          rintro r h' ⟨rfl, m4, rfl, hp4, hs5⟩
          obtain ⟨q1, q2⟩ := r7 _ hp4 hs5
          have hl5 := len_of_perm hp4
          (repeat' (first|refine svz ⟨fun b hq=>?_⟩|refine svW ⟨?_⟩|refine svu ⟨fun u=>?_⟩|(refine svG (fun hc=>?_) (fun hc=>?_)<;>try exact svx)|refine svh (fun hb=>?_) (fun hb=>?_)|refine svb (fun b=>?_)|fail))
          exact ⟨(a', mid, lim1, _, ap, m4), ⟨r1, by dsimp only; omega, by dsimp only; omega, by dsimp only; omega, q1, hlim1, fun R h1 h2 => by obtain ⟨y1, y2⟩ := q2 R h1 h2; exact w8 R y1 y2⟩, lee, by dsimp only; omega⟩
  · (repeat' (first|refine svz ⟨fun b hq=>?_⟩|refine svW ⟨?_⟩|refine svu ⟨fun u=>?_⟩|(refine svG (fun hc=>?_) (fun hc=>?_)<;>try exact svx)|refine svh (fun hb=>?_) (fun hb=>?_)|refine svb (fun b=>?_)|fail))
    refine S.call ?_
    refine (ins_c m a' b' v h (by omega) (by omega) (by omega)).mono ?_
    rintro r h' ⟨rfl, m', rfl, hm'⟩
    (repeat' (first|refine svz ⟨fun b hq=>?_⟩|refine svW ⟨?_⟩|refine svu ⟨fun u=>?_⟩|(refine svG (fun hc=>?_) (fun hc=>?_)<;>try exact svx)|refine svh (fun hb=>?_) (fun hb=>?_)|refine svb (fun b=>?_)|fail))
    obtain ⟨k1, k2⟩ := insertionSort_holds hS m.toArray a' b' (by omega) wsz
    rw [← hm'] at k1 k2
    obtain ⟨z1, z2⟩ := w7 _ k1 k2
    exact fin_r (h' := .own v 1 (ints .i64 m') 3 :: h) ⟨rfl, m', rfl, z1, z2⟩
def srt (l : List Int) : List Int := l.mergeSort (fun x y => decide (x ≤ y))
theorem srt_of {l l' : List Int} (h1 : PermIn 0 l.length l.toArray l'.toArray) (h2 : SortedIn ltInt 0 l.length l'.toArray) : l' = srt l := by
  have := sorted_unique_holds (lt := ltInt) swo_ltInt (fun x y h1 h2 => by simp [ltInt] at h1 h2; omega) l.toArray l'.toArray (by simpa using h1) (by simpa using h2)
  have e : (fun x y => !ltInt y x) = (fun x y : Int => decide (x ≤ y)) := by
    funext x y; unfold ltInt; rw [← decide_not]; exact decide_eq_decide.2 Int.not_lt
  rw [e] at this
  unfold srt
  simpa using this
set_option maxRecDepth 100000 in
theorem sort_c (l : List Int) (v : Value) (h : Heap) (hn : l.length < 1048576) : ACalls Tryz.prog 111 [.val v] (.own v 1 (ints .i64 l) 3 :: h) (fun r h' => r = .tup [] ∧ h' = .own v 1 (ints .i64 (srt l)) 3 :: h) := by
  refine ACalls.intro Tryz.func111 rfl Tryz.ntmps111 Tryz.results111 (Nat.le_of_ble_eq_true rfl) ?_
  (repeat' (first|refine svz ⟨fun b hq=>?_⟩|refine svW ⟨?_⟩|refine svu ⟨fun u=>?_⟩|(refine svG (fun hc=>?_) (fun hc=>?_)<;>try exact svx)|refine svh (fun hb=>?_) (fun hb=>?_)|refine svb (fun b=>?_)|fail))
  refine S.call ?_
  refine (len_c l.length _ hn).mono ?_
  rintro r h' ⟨rfl, hh⟩
  subst hh
  (repeat' (first|refine svz ⟨fun b hq=>?_⟩|refine svW ⟨?_⟩|refine svu ⟨fun u=>?_⟩|(refine svG (fun hc=>?_) (fun hc=>?_)<;>try exact svx)|refine svh (fun hb=>?_) (fun hb=>?_)|refine svb (fun b=>?_)|fail))
  refine S.call ?_
  have h16 := bitsLen_64 hn
  refine (pdq_c l.length l 0 l.length ((bitsLen l.length : Nat) : Int) v h (by omega) (by omega) (Nat.le_refl _) hn (Or.inl rfl) ⟨by omega, by omega⟩).mono ?_
  rintro r h' ⟨rfl, m, rfl, h1, h2⟩
  (repeat' (first|refine svz ⟨fun b hq=>?_⟩|refine svW ⟨?_⟩|refine svu ⟨fun u=>?_⟩|(refine svG (fun hc=>?_) (fun hc=>?_)<;>try exact svx)|refine svh (fun hb=>?_) (fun hb=>?_)|refine svb (fun b=>?_)|fail))
  rw [srt_of h1 h2]
  exact fin_n (h' := .own v 1 (ints .i64 (srt l)) 3 :: h) ⟨rfl, rfl⟩
end Go.Proofs.YtfbegifmhgkpjaaGreat
