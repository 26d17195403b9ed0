/- arc: coord, check, within, row; sort.Search. No condition. -/
import Derived.Test.YtmkpffckhdofbaaA1
import Derived.Test.YtmkpffckhdofbaaU4
namespace Go.Proofs.Ytmkpffckhdofbaa
open Go Go.VM
attribute [local irreducible] PurV Pur Step RL W D ACalls Then InBlock Fini
set_option linter.unusedVariables false
set_option linter.unusedSimpArgs false
set_option maxHeartbeats 20000000
def coP (n : Int) : Prop := -1048576 ≤ n ∧ n ≤ 1048576
instance (n : Int) : Decidable (coP n) := inferInstanceAs (Decidable (_ ∧ _))
def errF (r : RC) : Int := if ¬ (coP r.x ∧ coP r.y) then 1 else if ¬ ((1 ≤ r.w ∧ r.w ≤ 4096) ∧ 1 ≤ r.h ∧ r.h ≤ 4096) then 17 else if ¬ (r.x + r.w ≤ 1048576 ∧ r.y + r.h ≤ 1048576) then 1 else 0
theorem errF_0 {r : RC} : errF r = 0 ↔ aok r := by
  unfold errF aok coP
  (repeat' split) <;> omega
set_option maxRecDepth 100000 in
theorem coord_c (n : Int) (h : Heap) : ACalls Try.prog 44 [.val (.int .i64 n)] h (fun v h' => v = .val (.bool (decide (coP n))) ∧ h' = h) := by
  refine ACalls.intro Try.func44 rfl Try.ntmps44 Try.results44 (Nat.le_of_ble_eq_true rfl) ?_
  (repeat' (first | (refine iS ?_; refine iMu ?_; refine S.mapU ?_) | refine svz ⟨fun b hq => ?_⟩ | refine sv1 ?_ | refine svs ⟨?_⟩ | refine svu ⟨fun u => ?_⟩ | (refine svg (fun hg => ?_) (fun hg => ?_) <;> try (exfalso; first | omega | contradiction)) | (refine svc (fun hc => ?_) (fun hc => ?_) <;> try (exfalso; first | omega | contradiction)) | refine sv2 ?_ | refine svh (fun hb => ?_) (fun hb => ?_) | refine svb (fun b => ?_) | refine sva ?_ | refine sv3 ?_))
  all_goals (refine fin_r (h' := _) ⟨?_, rfl⟩; refine congrArg (fun b => AV.val (.bool b)) ?_; unfold coP; first | rfl | (exact (decide_eq_false (by omega)).symm) | (exact (decide_eq_true (by omega)).symm) | (refine decide_eq_decide.2 ?_; omega))
set_option maxRecDepth 100000 in
theorem check_c (r : RC) (h : Heap) (ok : r.ok) : ACalls Try.prog 25 [r.enc] h (fun v h' => v = .val (.int .i64 (errF r)) ∧ h' = h) := by
  show ACalls Try.prog 25 [.agg [.val (.int .i64 r.x), .val (.int .i64 r.y), .val (.int .i64 r.w), .val (.int .i64 r.h)]] h _
  obtain ⟨⟨a1, a2⟩, ⟨a3, a4⟩, ⟨a5, a6⟩, ⟨a7, a8⟩⟩ := ok
  have cx := coord_c r.x
  have cy := coord_c r.y
  by_cases hx : coP r.x
  · rw [decide_eq_true hx] at cx
    by_cases hy : coP r.y
    · rw [decide_eq_true hy] at cy
      have hx' : -1048576 ≤ r.x ∧ r.x ≤ 1048576 := hx
      have hy' : -1048576 ≤ r.y ∧ r.y ≤ 1048576 := hy
      refine ACalls.intro Try.func25 rfl Try.ntmps25 Try.results25 (Nat.le_of_ble_eq_true rfl) ?_
      (repeat' (first | (refine iS ?_; refine iMu ?_; refine S.mapU ?_) | refine svz ⟨fun b hq => ?_⟩ | refine sv1 ?_ | refine svs ⟨?_⟩ | refine svu ⟨fun u => ?_⟩ | (refine svg (fun hg => ?_) (fun hg => ?_) <;> try (exfalso; first | omega | contradiction)) | (refine svc (fun hc => ?_) (fun hc => ?_) <;> try (exfalso; first | omega | contradiction)) | refine sv2 ?_ | refine svh (fun hb => ?_) (fun hb => ?_) | refine svb (fun b => ?_) | refine sva ?_ | refine sv3 ?_))
      refine S.call ?_; refine (cx _).mono ?_; rintro r h' ⟨rfl, hh⟩; subst hh
      (repeat' (first | (refine iS ?_; refine iMu ?_; refine S.mapU ?_) | refine svz ⟨fun b hq => ?_⟩ | refine sv1 ?_ | refine svs ⟨?_⟩ | refine svu ⟨fun u => ?_⟩ | (refine svg (fun hg => ?_) (fun hg => ?_) <;> try (exfalso; first | omega | contradiction)) | (refine svc (fun hc => ?_) (fun hc => ?_) <;> try (exfalso; first | omega | contradiction)) | refine sv2 ?_ | refine svh (fun hb => ?_) (fun hb => ?_) | refine svb (fun b => ?_) | refine sva ?_ | refine sv3 ?_))
      refine S.call ?_; refine (cy _).mono ?_; rintro r h' ⟨rfl, hh⟩; subst hh
      (repeat' (first | (refine iS ?_; refine iMu ?_; refine S.mapU ?_) | refine svz ⟨fun b hq => ?_⟩ | refine sv1 ?_ | refine svs ⟨?_⟩ | refine svu ⟨fun u => ?_⟩ | (refine svg (fun hg => ?_) (fun hg => ?_) <;> try (exfalso; first | omega | contradiction)) | (refine svc (fun hc => ?_) (fun hc => ?_) <;> try (exfalso; first | omega | contradiction)) | refine sv2 ?_ | refine svh (fun hb => ?_) (fun hb => ?_) | refine svb (fun b => ?_) | refine sva ?_ | refine sv3 ?_))
      all_goals (refine fin_r (h' := _) ⟨?_, rfl⟩; refine congrArg (fun n => AV.val (.int .i64 n)) ?_; unfold errF coP; (repeat' split) <;> omega)
    · rw [decide_eq_false hy] at cy
      have e : errF r = 1 := by unfold errF; rw [if_pos (fun q => hy q.2)]
      rw [e]
      refine ACalls.intro Try.func25 rfl Try.ntmps25 Try.results25 (Nat.le_of_ble_eq_true rfl) ?_
      (repeat' (first | (refine iS ?_; refine iMu ?_; refine S.mapU ?_) | refine svz ⟨fun b hq => ?_⟩ | refine sv1 ?_ | refine svs ⟨?_⟩ | refine svu ⟨fun u => ?_⟩ | (refine svg (fun hg => ?_) (fun hg => ?_) <;> try (exfalso; first | omega | contradiction)) | (refine svc (fun hc => ?_) (fun hc => ?_) <;> try (exfalso; first | omega | contradiction)) | refine sv2 ?_ | refine svh (fun hb => ?_) (fun hb => ?_) | refine svb (fun b => ?_) | refine sva ?_ | refine sv3 ?_))
      refine S.call ?_; refine (cx _).mono ?_; rintro r h' ⟨rfl, hh⟩; subst hh
      (repeat' (first | (refine iS ?_; refine iMu ?_; refine S.mapU ?_) | refine svz ⟨fun b hq => ?_⟩ | refine sv1 ?_ | refine svs ⟨?_⟩ | refine svu ⟨fun u => ?_⟩ | (refine svg (fun hg => ?_) (fun hg => ?_) <;> try (exfalso; first | omega | contradiction)) | (refine svc (fun hc => ?_) (fun hc => ?_) <;> try (exfalso; first | omega | contradiction)) | refine sv2 ?_ | refine svh (fun hb => ?_) (fun hb => ?_) | refine svb (fun b => ?_) | refine sva ?_ | refine sv3 ?_))
      refine S.call ?_; refine (cy _).mono ?_; rintro r h' ⟨rfl, hh⟩; subst hh
      (repeat' (first | (refine iS ?_; refine iMu ?_; refine S.mapU ?_) | refine svz ⟨fun b hq => ?_⟩ | refine sv1 ?_ | refine svs ⟨?_⟩ | refine svu ⟨fun u => ?_⟩ | (refine svg (fun hg => ?_) (fun hg => ?_) <;> try (exfalso; first | omega | contradiction)) | (refine svc (fun hc => ?_) (fun hc => ?_) <;> try (exfalso; first | omega | contradiction)) | refine sv2 ?_ | refine svh (fun hb => ?_) (fun hb => ?_) | refine svb (fun b => ?_) | refine sva ?_ | refine sv3 ?_))
      exact fin_r (h' := _) ⟨rfl, rfl⟩
  · rw [decide_eq_false hx] at cx
    have e : errF r = 1 := by unfold errF; rw [if_pos (fun q => hx q.1)]
    rw [e]
    refine ACalls.intro Try.func25 rfl Try.ntmps25 Try.results25 (Nat.le_of_ble_eq_true rfl) ?_
    (repeat' (first | (refine iS ?_; refine iMu ?_; refine S.mapU ?_) | refine svz ⟨fun b hq => ?_⟩ | refine sv1 ?_ | refine svs ⟨?_⟩ | refine svu ⟨fun u => ?_⟩ | (refine svg (fun hg => ?_) (fun hg => ?_) <;> try (exfalso; first | omega | contradiction)) | (refine svc (fun hc => ?_) (fun hc => ?_) <;> try (exfalso; first | omega | contradiction)) | refine sv2 ?_ | refine svh (fun hb => ?_) (fun hb => ?_) | refine svb (fun b => ?_) | refine sva ?_ | refine sv3 ?_))
    refine S.call ?_; refine (cx _).mono ?_; rintro r h' ⟨rfl, hh⟩; subst hh
    (repeat' (first | (refine iS ?_; refine iMu ?_; refine S.mapU ?_) | refine svz ⟨fun b hq => ?_⟩ | refine sv1 ?_ | refine svs ⟨?_⟩ | refine svu ⟨fun u => ?_⟩ | (refine svg (fun hg => ?_) (fun hg => ?_) <;> try (exfalso; first | omega | contradiction)) | (refine svc (fun hc => ?_) (fun hc => ?_) <;> try (exfalso; first | omega | contradiction)) | refine sv2 ?_ | refine svh (fun hb => ?_) (fun hb => ?_) | refine svb (fun b => ?_) | refine sva ?_ | refine sv3 ?_))
    exact fin_r (h' := _) ⟨rfl, rfl⟩
theorem mul_abs {a b A B : Int} (ha : -A ≤ a ∧ a ≤ A) (hb : -B ≤ b ∧ b ≤ B) : -(A * B) ≤ a * b ∧ a * b ≤ A * B := by
  have h1 := Int.mul_nonneg (show 0 ≤ A - a by omega) (show 0 ≤ B - b by omega)
  have h2 := Int.mul_nonneg (show 0 ≤ A + a by omega) (show 0 ≤ B + b by omega)
  have h3 := Int.mul_nonneg (show 0 ≤ A - a by omega) (show 0 ≤ B + b by omega)
  have h4 := Int.mul_nonneg (show 0 ≤ A + a by omega) (show 0 ≤ B - b by omega)
  grind
set_option maxRecDepth 100000 in
theorem within_c (r : RC) (x y : Int) (h : Heap) (ok : aok r) (hin : inR r x y) : ACalls Try.prog 29 [r.enc, .val (.int .i64 x), .val (.int .i64 y)] h (fun v h' => v = .val (.bool (insE r x y)) ∧ h' = h) := by
  show ACalls Try.prog 29 [.agg [.val (.int .i64 r.x), .val (.int .i64 r.y), .val (.int .i64 r.w), .val (.int .i64 r.h)], _, _] h _
  obtain ⟨⟨⟨o1, o2⟩, o3, o4⟩, ⟨⟨o5, o6⟩, o7, o8⟩, o9, o10⟩ := ok
  obtain ⟨⟨i1, i2⟩, i3, i4⟩ := hin
  have m1 := mul_abs (a := 2 * (x - r.x) + 1 - r.w) (b := r.h) (A := 4096) (B := 4096) (by omega) (by omega)
  have m2 := mul_abs (a := 2 * (y - r.y) + 1 - r.h) (b := r.w) (A := 4096) (B := 4096) (by omega) (by omega)
  have m3 := mul_abs (a := r.w) (b := r.h) (A := 4096) (B := 4096) (by omega) (by omega)
  have m4 := mul_abs (A := 16777216) (B := 16777216) (by simpa using m1) (by simpa using m1)
  have m5 := mul_abs (A := 16777216) (B := 16777216) (by simpa using m2) (by simpa using m2)
  have m6 := mul_abs (A := 16777216) (B := 16777216) (by simpa using m3) (by simpa using m3)
  simp only [Int.reduceMul, Int.reduceNeg] at m1 m2 m3 m4 m5 m6
  unfold insE
  refine ACalls.intro Try.func29 rfl Try.ntmps29 Try.results29 (Nat.le_of_ble_eq_true rfl) ?_
  (repeat' (first | (refine iS ?_; refine iMu ?_; refine S.mapU ?_) | refine svz ⟨fun b hq => ?_⟩ | refine sv1 ?_ | refine svs ⟨?_⟩ | refine svu ⟨fun u => ?_⟩ | (refine svg (fun hg => ?_) (fun hg => ?_) <;> try (exfalso; first | omega | contradiction)) | (refine svc (fun hc => ?_) (fun hc => ?_) <;> try (exfalso; first | omega | contradiction)) | refine sv2 ?_ | refine svh (fun hb => ?_) (fun hb => ?_) | refine svb (fun b => ?_) | refine sva ?_ | refine sv3 ?_))
  exact fin_r (h' := _) ⟨rfl, rfl⟩
theorem findIdx_unique {p : Nat → Bool} {n k : Nat} (hk : k ≤ n) (h1 : ∀ i, i < k → p i = false) (h2 : k < n → p k = true) : (List.range n).findIdx p = k := by
  have hle := List.findIdx_le_length (xs := List.range n) (p := p)
  rw [List.length_range] at hle
  rcases Nat.lt_trichotomy ((List.range n).findIdx p) k with h | h | h
  · have h0 : (List.range n).findIdx p < (List.range n).length := by rw [List.length_range]; omega
    have := List.findIdx_getElem (w := h0)
    rw [List.getElem_range, h1 _ h] at this
    cases this
  · exact h
  · have := List.not_of_lt_findIdx h
    rw [List.getElem_range, h2 (by omega)] at this
    cases this
set_option maxRecDepth 100000 in
theorem search_c (n : Nat) (p : Nat → Bool) {fv : AV} {f : Nat} {caps : List AV} [TFun Try.prog f] (hF : Fv fv f caps) (h : Heap) (hn : n ≤ 1000000)
    (hp : ∀ i, i < n → ACalls Try.prog f ([.val (.int .i64 (i : Int))] ++ caps) h (fun r h' => r = .val (.bool (p i)) ∧ h' = h)) (hm : ∀ i j, i ≤ j → j < n → p i = true → p j = true) :
    ACalls Try.prog 45 [.val (.int .i64 (n : Int)), fv] h (fun r h' => r = .val (.int .i64 ((List.range n).findIdx p : Int)) ∧ h' = h) := by
  refine ACalls.intro Try.func45 rfl Try.ntmps45 Try.results45 (Nat.le_of_ble_eq_true rfl) ?_
  (repeat' (first | (refine iS ?_; refine iMu ?_; refine S.mapU ?_) | refine svz ⟨fun b hq => ?_⟩ | refine sv1 ?_ | refine svs ⟨?_⟩ | refine svu ⟨fun u => ?_⟩ | (refine svg (fun hg => ?_) (fun hg => ?_) <;> try (exfalso; first | omega | contradiction)) | (refine svc (fun hc => ?_) (fun hc => ?_) <;> try (exfalso; first | omega | contradiction)) | refine sv2 ?_ | refine svh (fun hb => ?_) (fun hb => ?_) | refine svb (fun b => ?_) | refine sva ?_ | refine sv3 ?_))
  refine W.loop (J := fun q : Nat × Nat => ⟨26, [(6, .val (.int .i64 (q.2 : Int))), (5, .val (.int .i64 (q.1 : Int))), (1, fv)], h⟩)
    (Φ := fun q => q.1 ≤ q.2 ∧ q.2 ≤ n ∧ (∀ m, m < q.1 → p m = false) ∧ (q.2 < n → p q.2 = true)) (μ := fun q => q.2 - q.1) (0, n) ⟨rfl, (by repeat (first | exact LeT.nil | refine LeT.cons rfl ?_ | refine LeT.consw rfl (by (repeat (first | exact Wk.refl _ | exact Wk.nilr _ | exact Wk.nilm | apply Wk.aggc | apply Wk.tupc | exact Wk.aggn | exact Wk.tupn)); first | done | fail) ?_)), (by repeat (first | exact LeH.refl _ | exact LeH.nil _ | refine LeH.cons (by (fail_if_success (apply tkG)); (repeat (first | exact Tk.here | apply Tk.there)); first | done | fail) ?_ | refine LeH.boxw (by (fail_if_success (apply tkG)); (repeat (first | exact Tk.here | apply Tk.there)); first | done | fail) (by (repeat (first | exact Wk.refl _ | exact Wk.nilr _ | exact Wk.nilm | apply Wk.aggc | apply Wk.tupc | exact Wk.aggn | exact Wk.tupn)); first | done | fail) ?_ | refine LeH.skip ?_))⟩ ⟨Nat.zero_le _, Nat.le_refl _, by simp, by simp⟩ ?_
  rintro ⟨i, j⟩ ⟨hij, hj, h1, h2⟩
  dsimp only at hij hj h1 h2 ⊢
  rcases Nat.lt_or_ge i j with hlt | hge
  · have hq := hp ((i + j) / 2) (by omega)
    have e : ((((i + j) / 2 : Nat) : Int)) = ((i : Int) + (j : Int)) / ((2 : Nat) : Int) := by omega
    rw [e] at hq
    (repeat' (first | (refine iS ?_; refine iMu ?_; refine S.mapU ?_) | refine svz ⟨fun b hq => ?_⟩ | refine sv1 ?_ | refine svs ⟨?_⟩ | refine svu ⟨fun u => ?_⟩ | (refine svg (fun hg => ?_) (fun hg => ?_) <;> try (exfalso; first | omega | contradiction)) | (refine svc (fun hc => ?_) (fun hc => ?_) <;> try (exfalso; first | omega | contradiction)) | refine sv2 ?_ | refine svh (fun hb => ?_) (fun hb => ?_) | refine svb (fun b => ?_) | refine sva ?_ | refine sv3 ?_))
    refine S.callv hF ?_
    refine hq.mono ?_
    rintro r h' ⟨rfl, hh⟩; subst hh
    rw [← e]
    have hM1 : i ≤ (i + j) / 2 := by omega
    have hM2 : (i + j) / 2 < j := by omega
    clear e hq
    generalize (i + j) / 2 = M at *
    cases hpm : p M with
    | false =>
      have hbe : ∀ m, m < M + 1 → p m = false := fun m hm' => by
        cases hpx : p m with
        | false => rfl
        | true => exact absurd (hm m M (by omega) (by omega) hpx) (by rw [hpm]; simp)
      (repeat' (first | (refine iS ?_; refine iMu ?_; refine S.mapU ?_) | refine svz ⟨fun b hq => ?_⟩ | refine sv1 ?_ | refine svs ⟨?_⟩ | refine svu ⟨fun u => ?_⟩ | (refine svg (fun hg => ?_) (fun hg => ?_) <;> try (exfalso; first | omega | contradiction)) | (refine svc (fun hc => ?_) (fun hc => ?_) <;> try (exfalso; first | omega | contradiction)) | refine sv2 ?_ | refine svh (fun hb => ?_) (fun hb => ?_) | refine svb (fun b => ?_) | refine sva ?_ | refine sv3 ?_))
      exact ⟨(M + 1, j), ⟨hM2, hj, hbe, h2⟩, ⟨rfl, (by repeat (first | exact LeT.nil | refine LeT.cons rfl ?_ | refine LeT.consw rfl (by (repeat (first | exact Wk.refl _ | exact Wk.nilr _ | exact Wk.nilm | apply Wk.aggc | apply Wk.tupc | exact Wk.aggn | exact Wk.tupn)); first | done | fail) ?_)), (by repeat (first | exact LeH.refl _ | exact LeH.nil _ | refine LeH.cons (by (fail_if_success (apply tkG)); (repeat (first | exact Tk.here | apply Tk.there)); first | done | fail) ?_ | refine LeH.boxw (by (fail_if_success (apply tkG)); (repeat (first | exact Tk.here | apply Tk.there)); first | done | fail) (by (repeat (first | exact Wk.refl _ | exact Wk.nilr _ | exact Wk.nilm | apply Wk.aggc | apply Wk.tupc | exact Wk.aggn | exact Wk.tupn)); first | done | fail) ?_ | refine LeH.skip ?_))⟩, by dsimp only; omega⟩
    | true =>
      (repeat' (first | (refine iS ?_; refine iMu ?_; refine S.mapU ?_) | refine svz ⟨fun b hq => ?_⟩ | refine sv1 ?_ | refine svs ⟨?_⟩ | refine svu ⟨fun u => ?_⟩ | (refine svg (fun hg => ?_) (fun hg => ?_) <;> try (exfalso; first | omega | contradiction)) | (refine svc (fun hc => ?_) (fun hc => ?_) <;> try (exfalso; first | omega | contradiction)) | refine sv2 ?_ | refine svh (fun hb => ?_) (fun hb => ?_) | refine svb (fun b => ?_) | refine sva ?_ | refine sv3 ?_))
      exact ⟨(i, M), ⟨hM1, by dsimp only; omega, h1, fun _ => hpm⟩, ⟨rfl, (by repeat (first | exact LeT.nil | refine LeT.cons rfl ?_ | refine LeT.consw rfl (by (repeat (first | exact Wk.refl _ | exact Wk.nilr _ | exact Wk.nilm | apply Wk.aggc | apply Wk.tupc | exact Wk.aggn | exact Wk.tupn)); first | done | fail) ?_)), (by repeat (first | exact LeH.refl _ | exact LeH.nil _ | refine LeH.cons (by (fail_if_success (apply tkG)); (repeat (first | exact Tk.here | apply Tk.there)); first | done | fail) ?_ | refine LeH.boxw (by (fail_if_success (apply tkG)); (repeat (first | exact Tk.here | apply Tk.there)); first | done | fail) (by (repeat (first | exact Wk.refl _ | exact Wk.nilr _ | exact Wk.nilm | apply Wk.aggc | apply Wk.tupc | exact Wk.aggn | exact Wk.tupn)); first | done | fail) ?_ | refine LeH.skip ?_))⟩, by dsimp only; omega⟩
  · have e : i = j := by omega
    subst e
    rw [findIdx_unique hj h1 h2]
    (repeat' (first | (refine iS ?_; refine iMu ?_; refine S.mapU ?_) | refine svz ⟨fun b hq => ?_⟩ | refine sv1 ?_ | refine svs ⟨?_⟩ | refine svu ⟨fun u => ?_⟩ | (refine svg (fun hg => ?_) (fun hg => ?_) <;> try (exfalso; first | omega | contradiction)) | (refine svc (fun hc => ?_) (fun hc => ?_) <;> try (exfalso; first | omega | contradiction)) | refine sv2 ?_ | refine svh (fun hb => ?_) (fun hb => ?_) | refine svb (fun b => ?_) | refine sva ?_ | refine sv3 ?_))
    exact fin_r (h' := _) ⟨rfl, rfl⟩
end Go.Proofs.Ytmkpffckhdofbaa
