/- The reference's Bits. No condition. -/
import Derived.Test.YtdknjjgmmmmfjaaE23
namespace Go.Proofs.Ytdknjjgmmmmfjaa
open Go Go.VM
attribute [local irreducible] PurV Pur Step RL W D ACalls Then InBlock Fini
set_option linter.unusedVariables false
set_option linter.unusedSimpArgs false
set_option maxHeartbeats 20000000
/-- A byte's first k places. -/
def pbF (q : Nat → Bool) : Nat → Int
  | 0 => 0
  | k + 1 => pbF q k + if q k then ((2 ^ k : Nat) : Int) else 0
theorem pb_8 (q : Nat → Bool) : pbF q 8 = byteP q := by
  simp only [pbF, byteP, ib]
  cases q 0 <;> cases q 1 <;> cases q 2 <;> cases q 3 <;> cases q 4 <;> cases q 5 <;> cases q 6 <;> cases q 7 <;> rfl
theorem pb_in (q : Nat → Bool) : ∀ k, 0 ≤ pbF q k ∧ pbF q k ≤ ((2 ^ k : Nat) : Int) - 1
  | 0 => by simp [pbF]
  | k + 1 => by
    have h := pb_in q k
    have e : ((2 ^ (k + 1) : Nat) : Int) = 2 * ((2 ^ k : Nat) : Int) := by rw [Nat.pow_succ]; push_cast; omega
    unfold pbF
    rw [e]
    split <;> omega
theorem pb_cut (q : Nat → Bool) {k : Nat} (hq : ∀ j, k ≤ j → q j = false) : ∀ m, pbF q (k + m) = pbF q k
  | 0 => rfl
  | m + 1 => by
    rw [← Nat.add_assoc]
    show pbF q (k + m) + _ = _
    rw [hq (k + m) (by omega), pb_cut q hq m]
    simp
set_option maxRecDepth 100000 in
theorem rbits_size (l : List RC) (w g : Int) (h : Heap) (hn : (w < 1 ∨ 128 < w) ∨ (g < 1 ∨ 128 < g)) : ACalls Try.prog 28 [.ro 4 (l.map RC.enc), .val (.int .i64 (w)), .val (.int .i64 (g))] h (fun r h' => r = .tup [.val (.string (strB ([]))), .val (.int .i64 (17))] ∧ h' = h) := by
  refine ACalls.intro Try.func28 rfl Try.ntmps28 Try.results28 (Nat.le_of_ble_eq_true rfl) ?_
  (repeat' (first | (refine iS ?_; refine iMu ?_; refine S.mapU ?_) | refine svz ⟨fun b hq => ?_⟩ | refine sv1 ?_ | refine svs ⟨?_⟩ | refine svu ⟨fun u => ?_⟩ | (refine svg (fun hg => ?_) (fun hg => ?_) <;> try (exfalso; first | omega | contradiction)) | (refine svc (fun hc => ?_) (fun hc => ?_) <;> try (exfalso; first | omega | contradiction)) | refine sv2 ?_ | refine svh (fun hb => ?_) (fun hb => ?_) | refine svb (fun b => ?_) | refine sva ?_ | refine sv3 ?_))
  all_goals first | exact fin_r (h' := h) ⟨rfl, rfl⟩ | (exfalso; omega)
theorem cell_row {st y i : Nat} (hi : i < st) (p : Int → Int → Bool) : cellB st p (st * y + i) = byteP fun k => p ((8 * i + k : Nat) : Int) (y : Nat) := by
  unfold cellB
  rw [Nat.mul_add_mod, Nat.mod_eq_of_lt hi, Nat.mul_add_div (by omega), Nat.div_eq_of_lt hi, Nat.add_zero]
set_option maxRecDepth 100000 in
theorem rbits_c (l : List RC) (w : Int) (G st : Nat) (h : Heap) (ok : ∀ r ∈ l, r.ok) (hw : 1 ≤ w ∧ w ≤ 128) (hg : 1 ≤ G ∧ G ≤ 128) (hst : (w + 7) / 8 = (st : Nat)) :
    ACalls Try.prog 28 [.ro 4 (l.map RC.enc), .val (.int .i64 (w)), .val (.int .i64 ((G : Nat)))] h (fun r h' => r = .tup [.val (.string (strB (bytesF st G (fun x y => hasF l x y && decide (x < w))))), .val (.int .i64 (0))] ∧ h' = h) := by
  have hst1 : 1 ≤ st ∧ st ≤ 16 := by omega
  have rh := fun x y h => rhas_c l x y h ok
  refine ACalls.intro Try.func28 rfl Try.ntmps28 Try.results28 (Nat.le_of_ble_eq_true rfl) ?_
  (repeat' (first | (refine iS ?_; refine iMu ?_; refine S.mapU ?_) | refine svz ⟨fun b hq => ?_⟩ | refine sv1 ?_ | refine svs ⟨?_⟩ | refine svu ⟨fun u => ?_⟩ | (refine svg (fun hg => ?_) (fun hg => ?_) <;> try (exfalso; first | omega | contradiction)) | (refine svc (fun hc => ?_) (fun hc => ?_) <;> try (exfalso; first | omega | contradiction)) | refine sv2 ?_ | refine svh (fun hb => ?_) (fun hb => ?_) | refine svb (fun b => ?_) | refine sva ?_ | refine sv3 ?_))
  rw [hst]
  refine W.loop (J := fun y : Nat => ⟨72, [(10, .val (.int .i64 ((y : Nat)))), (9, .val (.string (strB (((List.range (st * y)).map (cellB st (fun x y => hasF l x y && decide (x < w)))))))), (8, .val (.int .i64 (st))), (0, .ro 4 (l.map RC.enc)), (1, .val (.int .i64 (w))), (2, .val (.int .i64 ((G : Nat))))], h⟩)
    (Φ := fun y => y ≤ G) (μ := fun y => G - y) 0 lee (Nat.zero_le _) ?_
  intro y hy
  rcases Nat.lt_or_ge y G with hyl | hyg
  · have ey : st * (y + 1) = st * y + st := by rw [Nat.mul_add, Nat.mul_one]
    have hsy : st * y + st ≤ 2048 := by
      have : st * (y + 1) ≤ 16 * 128 := Nat.mul_le_mul hst1.2 (by omega)
      omega
    (repeat' (first | (refine iS ?_; refine iMu ?_; refine S.mapU ?_) | refine svz ⟨fun b hq => ?_⟩ | refine sv1 ?_ | refine svs ⟨?_⟩ | refine svu ⟨fun u => ?_⟩ | (refine svg (fun hg => ?_) (fun hg => ?_) <;> try (exfalso; first | omega | contradiction)) | (refine svc (fun hc => ?_) (fun hc => ?_) <;> try (exfalso; first | omega | contradiction)) | refine sv2 ?_ | refine svh (fun hb => ?_) (fun hb => ?_) | refine svb (fun b => ?_) | refine sva ?_ | refine sv3 ?_))
    refine W.loop (J := fun i : Nat => ⟨72, [(11, .val (.int .i64 ((i : Nat)))), (10, .val (.int .i64 ((y : Nat)))), (9, .val (.string (strB (((List.range (st * y + i)).map (cellB st (fun x y => hasF l x y && decide (x < w)))))))), (8, .val (.int .i64 (st))), (0, .ro 4 (l.map RC.enc)), (1, .val (.int .i64 (w))), (2, .val (.int .i64 ((G : Nat))))], h⟩)
      (Φ := fun i => i ≤ st) (μ := fun i => st - i) 0 lee (Nat.zero_le _) ?_
    intro i hi
    rcases Nat.lt_or_ge i st with hil | hig
    · have ec := cell_row (y := y) hil (fun x y => hasF l x y && decide (x < w))
      have esz : (strB ((List.range (st * y + i)).map (cellB st (fun x y => hasF l x y && decide (x < w))))).size ≤ 2048 := by rw [strB_size, List.length_map, List.length_range]; omega
      have enx : strB ((List.range (st * y + (i + 1))).map (cellB st (fun x y => hasF l x y && decide (x < w)))) = strB ((List.range (st * y + i)).map (cellB st (fun x y => hasF l x y && decide (x < w)))) ++ strB [cellB st (fun x y => hasF l x y && decide (x < w)) (st * y + i)] := by
        rw [← Nat.add_assoc, List.range_succ, List.map_append, strB_app]; rfl
      rw [ec] at enx
      generalize hS1 : strB ((List.range (st * y + (i + 1))).map (cellB st (fun x y => hasF l x y && decide (x < w)))) = S1 at *
      generalize strB ((List.range (st * y + i)).map (cellB st (fun x y => hasF l x y && decide (x < w)))) = S0 at *
      have hq : ∀ k : Nat, (fun k : Nat => hasF l ((8 * i + k : Nat) : Int) (y : Nat) && decide (((8 * i + k : Nat) : Int) < w)) k = (hasF l ((8 * i + k : Nat) : Int) (y : Nat) && decide (((8 * i + k : Nat) : Int) < w)) := fun k => rfl
      generalize hQ : (fun k : Nat => hasF l ((8 * i + k : Nat) : Int) (y : Nat) && decide (((8 * i + k : Nat) : Int) < w)) = Q at *
      (repeat' (first | (refine iS ?_; refine iMu ?_; refine S.mapU ?_) | refine svz ⟨fun b hq => ?_⟩ | refine sv1 ?_ | refine svs ⟨?_⟩ | refine svu ⟨fun u => ?_⟩ | (refine svg (fun hg => ?_) (fun hg => ?_) <;> try (exfalso; first | omega | contradiction)) | (refine svc (fun hc => ?_) (fun hc => ?_) <;> try (exfalso; first | omega | contradiction)) | refine sv2 ?_ | refine svh (fun hb => ?_) (fun hb => ?_) | refine svb (fun b => ?_) | refine sva ?_ | refine sv3 ?_))
      refine W.loop (J := fun k : Nat => ⟨72, [(14, .val (.int .i64 ((8 * i + k : Nat)))), (13, .val (.int .i64 ((2 ^ k : Nat)))), (12, .val (.int .i64 (pbF Q k))), (11, .val (.int .i64 ((i : Nat)))), (10, .val (.int .i64 ((y : Nat)))), (9, .val (.string S0)), (8, .val (.int .i64 (st))), (0, .ro 4 (l.map RC.enc)), (1, .val (.int .i64 (w))), (2, .val (.int .i64 ((G : Nat))))], h⟩)
        (Φ := fun k => k ≤ 8 ∧ ((8 * i + k : Nat) : Int) ≤ w) (μ := fun k => 8 - k) 0 (by rw [show ((8 * i + 0 : Nat) : Int) = 8 * (i : Int) by omega]; exact lee) ⟨Nat.zero_le _, by push_cast; omega⟩ ?_
      rintro k ⟨hk, hkw⟩
      have hpb := pb_in Q k
      have h2k : (0 : Int) ≤ ((2 ^ k : Nat) : Int) ∧ ((2 ^ k : Nat) : Int) ≤ 256 := ⟨Int.natCast_nonneg _, Int.ofNat_le.2 (Nat.le_trans (Nat.pow_le_pow_right (by decide) hk) (by decide))⟩
      by_cases hin : k < 8 ∧ ((8 * i + k : Nat) : Int) < w
      · obtain ⟨hk8, hkw2⟩ := hin
        have e1 : pbF Q (k + 1) = pbF Q k + if Q k then ((2 ^ k : Nat) : Int) else 0 := rfl
        have e2 : ((2 ^ (k + 1) : Nat) : Int) = 2 * ((2 ^ k : Nat) : Int) := by rw [Nat.pow_succ]; push_cast; omega
        have rh1 := rh ((8 * i + k : Nat) : Int) (y : Nat)
        have hqk := hq k
        rw [decide_eq_true hkw2, Bool.and_true] at hqk
        rw [← hqk] at rh1
        have e3 : ((8 * i + (k + 1) : Nat) : Int) = ((8 * i + k : Nat) : Int) + 1 := by omega
        clear hq rh
        generalize hK : ((8 * i + k : Nat) : Int) = KK at *
        generalize hT : ((2 ^ k : Nat) : Int) = T2 at *
        generalize pbF Q k = B0 at *
        (repeat' (first | (refine iS ?_; refine iMu ?_; refine S.mapU ?_) | refine svz ⟨fun b hq => ?_⟩ | refine sv1 ?_ | refine svs ⟨?_⟩ | refine svu ⟨fun u => ?_⟩ | (refine svg (fun hg => ?_) (fun hg => ?_) <;> try (exfalso; first | omega | contradiction)) | (refine svc (fun hc => ?_) (fun hc => ?_) <;> try (exfalso; first | omega | contradiction)) | refine sv2 ?_ | refine svh (fun hb => ?_) (fun hb => ?_) | refine svb (fun b => ?_) | refine sva ?_ | refine sv3 ?_))
        refine S.call ?_; refine (rh1 _).mono ?_; rintro r h' ⟨rfl, hh⟩; subst hh
        (repeat' (first | (refine iS ?_; refine iMu ?_; refine S.mapU ?_) | refine svz ⟨fun b hq => ?_⟩ | refine sv1 ?_ | refine svs ⟨?_⟩ | refine svu ⟨fun u => ?_⟩ | (refine svg (fun hg => ?_) (fun hg => ?_) <;> try (exfalso; first | omega | contradiction)) | (refine svc (fun hc => ?_) (fun hc => ?_) <;> try (exfalso; first | omega | contradiction)) | refine sv2 ?_ | refine svh (fun hb => ?_) (fun hb => ?_) | refine svb (fun b => ?_) | refine sva ?_ | refine sv3 ?_))
        · exact ⟨k + 1, ⟨by omega, by rw [e3]; omega⟩, by rw [e1, e2, e3, if_pos (by assumption)]; exact lee, by omega⟩
        · exact ⟨k + 1, ⟨by omega, by rw [e3]; omega⟩, by rw [e1, e2, e3, if_neg (by rw [hb]; decide), Int.add_zero]; exact lee, by omega⟩
      · have e1 : pbF Q k = byteP Q := by
          by_cases k8 : k = 8
          · subst k8; exact pb_8 Q
          · have := pb_cut Q (k := k) (fun j hj => by
              rw [hq j, decide_eq_false (by omega), Bool.and_false]) (8 - k)
            rw [show k + (8 - k) = 8 by omega] at this
            rw [← this, pb_8]
        have hbq := byte_in Q
        rw [e1]
        clear hq rh hpb
        generalize byteP Q = B0 at *
        (repeat' (first | (refine iR2 ?_; refine r2b ?_; refine R2.one ?_) | (refine iS ?_; refine iN ?_; refine S.build1r ?_) | (refine iS ?_; refine iMu ?_; refine S.mapU ?_) | refine svz ⟨fun b hq => ?_⟩ | refine sv1 ?_ | refine svs ⟨?_⟩ | refine svu ⟨fun u => ?_⟩ | (refine svg (fun hg => ?_) (fun hg => ?_) <;> try (exfalso; first | omega | contradiction)) | (refine svc (fun hc => ?_) (fun hc => ?_) <;> try (exfalso; first | omega | contradiction)) | refine sv2 ?_ | refine svh (fun hb => ?_) (fun hb => ?_) | refine svb (fun b => ?_) | refine sva ?_ | refine sv3 ?_))
        all_goals
          refine iS ?_
          refine step_pur (pur_b2s (e := 5) (ns := [B0]) rfl) rfl ?_
          (repeat' (first | (refine iS ?_; refine iMu ?_; refine S.mapU ?_) | refine svz ⟨fun b hq => ?_⟩ | refine sv1 ?_ | refine svs ⟨?_⟩ | refine svu ⟨fun u => ?_⟩ | (refine svg (fun hg => ?_) (fun hg => ?_) <;> try (exfalso; first | omega | contradiction)) | (refine svc (fun hc => ?_) (fun hc => ?_) <;> try (exfalso; first | omega | contradiction)) | refine sv2 ?_ | refine svh (fun hb => ?_) (fun hb => ?_) | refine svb (fun b => ?_) | refine sva ?_ | refine sv3 ?_))
          refine iS ?_
          refine step_v (pur_cat rfl rfl (by rw [strB_size]; simp; omega)) rfl ?_
          (repeat' (first | (refine iS ?_; refine iMu ?_; refine S.mapU ?_) | refine svz ⟨fun b hq => ?_⟩ | refine sv1 ?_ | refine svs ⟨?_⟩ | refine svu ⟨fun u => ?_⟩ | (refine svg (fun hg => ?_) (fun hg => ?_) <;> try (exfalso; first | omega | contradiction)) | (refine svc (fun hc => ?_) (fun hc => ?_) <;> try (exfalso; first | omega | contradiction)) | refine sv2 ?_ | refine svh (fun hb => ?_) (fun hb => ?_) | refine svb (fun b => ?_) | refine sva ?_ | refine sv3 ?_))
          exact ⟨i + 1, hil, by rw [hS1, enx]; exact lee, by omega⟩
    · have e : i = st := by omega
      subst e
      rw [← ey]
      (repeat' (first | (refine iS ?_; refine iMu ?_; refine S.mapU ?_) | refine svz ⟨fun b hq => ?_⟩ | refine sv1 ?_ | refine svs ⟨?_⟩ | refine svu ⟨fun u => ?_⟩ | (refine svg (fun hg => ?_) (fun hg => ?_) <;> try (exfalso; first | omega | contradiction)) | (refine svc (fun hc => ?_) (fun hc => ?_) <;> try (exfalso; first | omega | contradiction)) | refine sv2 ?_ | refine svh (fun hb => ?_) (fun hb => ?_) | refine svb (fun b => ?_) | refine sva ?_ | refine sv3 ?_))
      exact ⟨y + 1, hyl, lee, by omega⟩
  · have e : y = G := by omega
    subst e
    (repeat' (first | (refine iS ?_; refine iMu ?_; refine S.mapU ?_) | refine svz ⟨fun b hq => ?_⟩ | refine sv1 ?_ | refine svs ⟨?_⟩ | refine svu ⟨fun u => ?_⟩ | (refine svg (fun hg => ?_) (fun hg => ?_) <;> try (exfalso; first | omega | contradiction)) | (refine svc (fun hc => ?_) (fun hc => ?_) <;> try (exfalso; first | omega | contradiction)) | refine sv2 ?_ | refine svh (fun hb => ?_) (fun hb => ?_) | refine svb (fun b => ?_) | refine sva ?_ | refine sv3 ?_))
    exact fin_r (h' := h) ⟨rfl, rfl⟩
end Go.Proofs.Ytdknjjgmmmmfjaa
