/- ArcSpans. No condition. -/
import Derived.Test.YtmkpffckhdofbaaA7
namespace Go.Proofs.Ytmkpffckhdofbaa
open Go Go.VM
attribute [local irreducible] PurV Pur Step RL W D ACalls Then InBlock Fini
set_option linter.unusedVariables false
set_option linter.unusedSimpArgs false
set_option maxHeartbeats 20000000
theorem Ov.rok {o : Ov} (ok : o.ok) : o.rc.ok := by
  obtain ⟨⟨⟨a1, a2⟩, a3, a4⟩, ⟨a5, a6⟩, a7, a8⟩ := ok
  unfold Ov.rc
  constructor <;> (unfold I64; dsimp only; omega)
theorem Ov.rb {o : Ov} (ok : o.ok) : ((-32768 ≤ o.rc.x ∧ o.rc.x ≤ 32767) ∧ -32768 ≤ o.rc.y ∧ o.rc.y ≤ 32767) ∧ (0 ≤ o.rc.w ∧ o.rc.w ≤ 23) ∧ 0 ≤ o.rc.h ∧ o.rc.h ≤ 23 := by
  obtain ⟨⟨⟨a1, a2⟩, a3, a4⟩, ⟨a5, a6⟩, a7, a8⟩ := ok
  unfold Ov.rc
  dsimp only
  omega
theorem exists_succ {p : Nat → Prop} {n : Nat} : (∃ m, m < n + 1 ∧ p m) ↔ (∃ m, m < n ∧ p m) ∨ p n := by
  constructor
  · rintro ⟨m, h1, h2⟩
    rcases Nat.lt_or_ge m n with h | h
    · exact .inl ⟨m, h, h2⟩
    · rw [show m = n by omega] at h2; exact .inr h2
  · rintro (⟨m, h1, h2⟩ | h)
    · exact ⟨m, by omega, h2⟩
    · exact ⟨n, by omega, h⟩
set_option maxRecDepth 100000 in
theorem aspans_c (o : Ov) (y : Int) (ok : o.ok) (hy : -32768 ≤ y ∧ y ≤ 32767) : ACalls Try.prog 3 [o.enc, .val (.int .i16 y)] [] (fun r h' => r = .val (.bool true)) := by
  have hr := fun h => rect_c o h ok
  have rok := Ov.rok ok
  have rb := Ov.rb ok
  show ACalls Try.prog 3 [.agg [.val (.int .i16 o.x), .val (.int .i16 o.y), .val (.int .u8 o.w), .val (.int .u8 o.h)], _] [] _
  have hr' : ∀ h, ACalls Try.prog 9 [.agg [.val (.int .i16 o.x), .val (.int .i16 o.y), .val (.int .u8 o.w), .val (.int .u8 o.h)]] h (fun v h' => v = o.rc.enc ∧ h' = h) := hr
  clear hr
  generalize o.rc = r at *
  have s0 := fun h => span_c r y h rok (by omega)
  have w0 := fun h => wrong_c r h rok
  have i0 := fun x h => rinside_c r x y h rok
  have hE : r.enc = .agg [.val (.int .i64 r.x), .val (.int .i64 r.y), .val (.int .i64 r.w), .val (.int .i64 r.h)] := rfl
  rw [hE] at hr' s0 w0
  simp only [hE] at i0
  by_cases hk : aok r
  · rw [errF_0.2 hk] at w0
    have e : spanF r y = rowF r y := if_pos hk
    have hin : ∀ x, insF r x y = decide ((spanF r y).1 ≤ x ∧ x < (spanF r y).2) := fun x => by
      rw [Bool.eq_iff_iff, decide_eq_true_iff, insF_aok hk, rowF_spec hk, e]
    have hsp : spanF r y = (0, 0) ∨ ((spanF r y).1 < (spanF r y).2 ∧ r.x ≤ (spanF r y).1 ∧ (spanF r y).2 ≤ r.x + r.w ∧ r.y ≤ y ∧ y < r.y + r.h) := by rw [e]; exact rowF_in hk y
    obtain ⟨⟨⟨o1, o2⟩, o3, o4⟩, ⟨⟨o5, o6⟩, o7, o8⟩, o9, o10⟩ := hk
    simp only [hin] at i0
    generalize spanF r y = s at *
    obtain ⟨s1, s2⟩ := s
    simp only [Prod.mk.injEq] at hsp
    dsimp only at s0 i0 hsp
    clear hin e
    obtain ⟨w8, hw8⟩ : ∃ w, decide (s1 < s2) = w := ⟨_, rfl⟩
    rw [hw8] at s0
    by_cases hyy : r.y ≤ y ∧ y < r.y + r.h
    · refine ACalls.intro Try.func3 rfl Try.ntmps3 Try.results3 (Nat.le_of_ble_eq_true rfl) ?_
      (repeat' (first | (refine iS ?_; refine iMu ?_; refine S.mapU ?_) | refine svz ⟨fun b hq => ?_⟩ | refine sv1 ?_ | refine svs ⟨?_⟩ | refine svu ⟨fun u => ?_⟩ | (refine svg (fun hg => ?_) (fun hg => ?_) <;> try (exfalso; first | omega | contradiction)) | (refine svc (fun hc => ?_) (fun hc => ?_) <;> try (exfalso; first | omega | contradiction)) | refine sv2 ?_ | refine svh (fun hb => ?_) (fun hb => ?_) | refine svb (fun b => ?_) | refine sva ?_ | refine sv3 ?_))
      refine S.call ?_; refine (hr' _).mono ?_; rintro r h' ⟨rfl, hh⟩; subst hh
      (repeat' (first | (refine iS ?_; refine iMu ?_; refine S.mapU ?_) | refine svz ⟨fun b hq => ?_⟩ | refine sv1 ?_ | refine svs ⟨?_⟩ | refine svu ⟨fun u => ?_⟩ | (refine svg (fun hg => ?_) (fun hg => ?_) <;> try (exfalso; first | omega | contradiction)) | (refine svc (fun hc => ?_) (fun hc => ?_) <;> try (exfalso; first | omega | contradiction)) | refine sv2 ?_ | refine svh (fun hb => ?_) (fun hb => ?_) | refine svb (fun b => ?_) | refine sva ?_ | refine sv3 ?_))
      revert b; intro b5
      refine S.call ?_; refine (s0 _).mono ?_; rintro r h' ⟨rfl, hh⟩; subst hh
      (repeat' (first | (refine iS ?_; refine iMu ?_; refine S.mapU ?_) | refine svz ⟨fun b hq => ?_⟩ | refine sv1 ?_ | refine svs ⟨?_⟩ | refine svu ⟨fun u => ?_⟩ | (refine svg (fun hg => ?_) (fun hg => ?_) <;> try (exfalso; first | omega | contradiction)) | (refine svc (fun hc => ?_) (fun hc => ?_) <;> try (exfalso; first | omega | contradiction)) | refine sv2 ?_ | refine svh (fun hb => ?_) (fun hb => ?_) | refine svb (fun b => ?_) | refine sva ?_ | refine sv3 ?_))
      refine S.call ?_; refine (w0 _).mono ?_; rintro r h' ⟨rfl, hh⟩; subst hh
      (repeat' (first | (refine iS ?_; refine iMu ?_; refine S.mapU ?_) | refine svz ⟨fun b hq => ?_⟩ | refine sv1 ?_ | refine svs ⟨?_⟩ | refine svu ⟨fun u => ?_⟩ | (refine svg (fun hg => ?_) (fun hg => ?_) <;> try (exfalso; first | omega | contradiction)) | (refine svc (fun hc => ?_) (fun hc => ?_) <;> try (exfalso; first | omega | contradiction)) | refine sv2 ?_ | refine svh (fun hb => ?_) (fun hb => ?_) | refine svb (fun b => ?_) | refine sva ?_ | refine sv3 ?_))
      refine W.loop (J := fun q : Nat × Bool => ⟨115, [(10, .val (.int .i64 (r.x - 1 + (q.1 : Int)))), (9, .val (.bool q.2)), (8, .val (.bool w8)), (7, .val (.int .i64 s2)), (6, .val (.int .i64 s1)), (5, .val (.pointer (some ⟨b5, 0, none⟩))), (1, .val (.int .i16 y))], [.box b5 [.val (.int .i64 r.x), .val (.int .i64 r.y), .val (.int .i64 r.w), .val (.int .i64 r.h)] 26]⟩)
        (Φ := fun q => q.1 ≤ r.w.toNat + 2 ∧ (q.2 = true ↔ ∃ m, m < q.1 ∧ (s1 ≤ r.x - 1 + (m : Int) ∧ r.x - 1 + (m : Int) < s2))) (μ := fun q => r.w.toNat + 2 - q.1) (0, false) (by dsimp only; rw [show r.x - 1 + ((0 : Nat) : Int) = r.x - 1 by omega]; exact ⟨rfl, (by repeat (first | exact LeT.nil | refine LeT.cons rfl ?_ | refine LeT.consw rfl (by (repeat (first | exact Wk.refl _ | exact Wk.nilr _ | exact Wk.nilm | apply Wk.aggc | apply Wk.tupc | exact Wk.aggn | exact Wk.tupn)); first | done | fail) ?_)), (by repeat (first | exact LeH.refl _ | exact LeH.nil _ | refine LeH.cons (by (fail_if_success (apply tkG)); (repeat (first | exact Tk.here | apply Tk.there)); first | done | fail) ?_ | refine LeH.boxw (by (fail_if_success (apply tkG)); (repeat (first | exact Tk.here | apply Tk.there)); first | done | fail) (by (repeat (first | exact Wk.refl _ | exact Wk.nilr _ | exact Wk.nilm | apply Wk.aggc | apply Wk.tupc | exact Wk.aggn | exact Wk.tupn)); first | done | fail) ?_ | refine LeH.skip ?_))⟩) ⟨Nat.zero_le _, by simp⟩ ?_
      rintro ⟨j, v⟩ ⟨hj, hv⟩
      dsimp only at hj hv ⊢
      rcases Nat.lt_or_ge j (r.w.toNat + 2) with hlt | hge
      · have ej : r.x - 1 + (j : Int) + 1 = r.x - 1 + ((j + 1 : Nat) : Int) := by omega
        have i1 := i0 (r.x - 1 + (j : Int))
        have hsucc := exists_succ (p := fun m : Nat => s1 ≤ r.x - 1 + (m : Int) ∧ r.x - 1 + (m : Int) < s2) (n := j)
        by_cases hx : s1 ≤ r.x - 1 + (j : Int) ∧ r.x - 1 + (j : Int) < s2
        · rw [decide_eq_true hx] at i1
          obtain ⟨hx1, hx2⟩ := id hx
          rw [decide_eq_true (show s1 < s2 by omega)] at hw8
          subst hw8
          have hvt : true = true ↔ ∃ m, m < j + 1 ∧ (s1 ≤ r.x - 1 + (m : Int) ∧ r.x - 1 + (m : Int) < s2) := by rw [hsucc]; simp [hx]
          clear hv hsucc hsp
          obtain ⟨V, hV1, hV2⟩ : ∃ V : Prop, (V → (true = true ↔ ∃ m, m < j + 1 ∧ (s1 ≤ r.x - 1 + (m : Int) ∧ r.x - 1 + (m : Int) < s2))) ∧ V := ⟨_, fun q => q, hvt⟩
          clear hvt
          (repeat' (first | (refine iS ?_; refine iMu ?_; refine S.mapU ?_) | refine svz ⟨fun b hq => ?_⟩ | refine sv1 ?_ | refine svs ⟨?_⟩ | refine svu ⟨fun u => ?_⟩ | (refine svg (fun hg => ?_) (fun hg => ?_) <;> try (exfalso; first | omega | contradiction)) | (refine svc (fun hc => ?_) (fun hc => ?_) <;> try (exfalso; first | omega | contradiction)) | refine sv2 ?_ | refine svh (fun hb => ?_) (fun hb => ?_) | refine svb (fun b => ?_) | refine sva ?_ | refine sv3 ?_))
          refine S.call ?_; refine (i1 _).mono ?_; rintro r h' ⟨rfl, hh⟩; subst hh
          cases v <;> (
          (repeat' (first | (refine iS ?_; refine iMu ?_; refine S.mapU ?_) | refine svz ⟨fun b hq => ?_⟩ | refine sv1 ?_ | refine svs ⟨?_⟩ | refine svu ⟨fun u => ?_⟩ | (refine svg (fun hg => ?_) (fun hg => ?_) <;> try (exfalso; first | omega | contradiction)) | (refine svc (fun hc => ?_) (fun hc => ?_) <;> try (exfalso; first | omega | contradiction)) | refine sv2 ?_ | refine svh (fun hb => ?_) (fun hb => ?_) | refine svb (fun b => ?_) | refine sva ?_ | refine sv3 ?_))
          all_goals first | (rw [ej]; exact ⟨(j + 1, true), ⟨hlt, hV1 hV2⟩, ⟨rfl, (by repeat (first | exact LeT.nil | refine LeT.cons rfl ?_ | refine LeT.consw rfl (by (repeat (first | exact Wk.refl _ | exact Wk.nilr _ | exact Wk.nilm | apply Wk.aggc | apply Wk.tupc | exact Wk.aggn | exact Wk.tupn)); first | done | fail) ?_)), (by repeat (first | exact LeH.refl _ | exact LeH.nil _ | refine LeH.cons (by (fail_if_success (apply tkG)); (repeat (first | exact Tk.here | apply Tk.there)); first | done | fail) ?_ | refine LeH.boxw (by (fail_if_success (apply tkG)); (repeat (first | exact Tk.here | apply Tk.there)); first | done | fail) (by (repeat (first | exact Wk.refl _ | exact Wk.nilr _ | exact Wk.nilm | apply Wk.aggc | apply Wk.tupc | exact Wk.aggn | exact Wk.tupn)); first | done | fail) ?_ | refine LeH.skip ?_))⟩, by dsimp only; omega⟩) | (exfalso; have q := (by assumption : true ≠ decide (r.x - 1 + (j : Int) < s2)); rw [decide_eq_true hx2] at q; exact q rfl))
        · rw [decide_eq_false hx] at i1
          have hv' : v = true ↔ ∃ m, m < j + 1 ∧ (s1 ≤ r.x - 1 + (m : Int) ∧ r.x - 1 + (m : Int) < s2) := by
            rw [hsucc, hv]
            exact ⟨.inl, fun q => q.elim id fun q => absurd q hx⟩
          clear hv hsucc hsp
          obtain ⟨V, hV⟩ : ∃ V : Bool → Prop, (∀ b, V b → (b = true ↔ ∃ m, m < j + 1 ∧ (s1 ≤ r.x - 1 + (m : Int) ∧ r.x - 1 + (m : Int) < s2))) ∧ V v := ⟨_, fun b q => q, hv'⟩
          clear hv'
          obtain ⟨hV1, hV2⟩ := hV
          cases w8 <;> (
          (repeat' (first | (refine iS ?_; refine iMu ?_; refine S.mapU ?_) | refine svz ⟨fun b hq => ?_⟩ | refine sv1 ?_ | refine svs ⟨?_⟩ | refine svu ⟨fun u => ?_⟩ | (refine svg (fun hg => ?_) (fun hg => ?_) <;> try (exfalso; first | omega | contradiction)) | (refine svc (fun hc => ?_) (fun hc => ?_) <;> try (exfalso; first | omega | contradiction)) | refine sv2 ?_ | refine svh (fun hb => ?_) (fun hb => ?_) | refine svb (fun b => ?_) | refine sva ?_ | refine sv3 ?_))
          refine S.call ?_; refine (i1 _).mono ?_; rintro r h' ⟨rfl, hh⟩; subst hh
          cases v with
          | false =>
            (repeat' (first | (refine iS ?_; refine iMu ?_; refine S.mapU ?_) | refine svz ⟨fun b hq => ?_⟩ | refine sv1 ?_ | refine svs ⟨?_⟩ | refine svu ⟨fun u => ?_⟩ | (refine svg (fun hg => ?_) (fun hg => ?_) <;> try (exfalso; first | omega | contradiction)) | (refine svc (fun hc => ?_) (fun hc => ?_) <;> try (exfalso; first | omega | contradiction)) | refine sv2 ?_ | refine svh (fun hb => ?_) (fun hb => ?_) | refine svb (fun b => ?_) | refine sva ?_ | refine sv3 ?_))
            all_goals first | (rw [ej]; exact ⟨(j + 1, false), ⟨hlt, hV1 _ hV2⟩, ⟨rfl, (by repeat (first | exact LeT.nil | refine LeT.cons rfl ?_ | refine LeT.consw rfl (by (repeat (first | exact Wk.refl _ | exact Wk.nilr _ | exact Wk.nilm | apply Wk.aggc | apply Wk.tupc | exact Wk.aggn | exact Wk.tupn)); first | done | fail) ?_)), (by repeat (first | exact LeH.refl _ | exact LeH.nil _ | refine LeH.cons (by (fail_if_success (apply tkG)); (repeat (first | exact Tk.here | apply Tk.there)); first | done | fail) ?_ | refine LeH.boxw (by (fail_if_success (apply tkG)); (repeat (first | exact Tk.here | apply Tk.there)); first | done | fail) (by (repeat (first | exact Wk.refl _ | exact Wk.nilr _ | exact Wk.nilm | apply Wk.aggc | apply Wk.tupc | exact Wk.aggn | exact Wk.tupn)); first | done | fail) ?_ | refine LeH.skip ?_))⟩, by dsimp only; omega⟩) | (exfalso; omega) | (exfalso; have q := (by assumption : false ≠ decide (r.x - 1 + (j : Int) < s2)); rw [decide_eq_false (by omega)] at q; exact q rfl)
          | true =>
            (repeat' (first | (refine iS ?_; refine iMu ?_; refine S.mapU ?_) | refine svz ⟨fun b hq => ?_⟩ | refine sv1 ?_ | refine svs ⟨?_⟩ | refine svu ⟨fun u => ?_⟩ | (refine svg (fun hg => ?_) (fun hg => ?_) <;> try (exfalso; first | omega | contradiction)) | (refine svc (fun hc => ?_) (fun hc => ?_) <;> try (exfalso; first | omega | contradiction)) | refine sv2 ?_ | refine svh (fun hb => ?_) (fun hb => ?_) | refine svb (fun b => ?_) | refine sva ?_ | refine sv3 ?_))
            all_goals first | (rw [ej]; exact ⟨(j + 1, true), ⟨hlt, hV1 _ hV2⟩, ⟨rfl, (by repeat (first | exact LeT.nil | refine LeT.cons rfl ?_ | refine LeT.consw rfl (by (repeat (first | exact Wk.refl _ | exact Wk.nilr _ | exact Wk.nilm | apply Wk.aggc | apply Wk.tupc | exact Wk.aggn | exact Wk.tupn)); first | done | fail) ?_)), (by repeat (first | exact LeH.refl _ | exact LeH.nil _ | refine LeH.cons (by (fail_if_success (apply tkG)); (repeat (first | exact Tk.here | apply Tk.there)); first | done | fail) ?_ | refine LeH.boxw (by (fail_if_success (apply tkG)); (repeat (first | exact Tk.here | apply Tk.there)); first | done | fail) (by (repeat (first | exact Wk.refl _ | exact Wk.nilr _ | exact Wk.nilm | apply Wk.aggc | apply Wk.tupc | exact Wk.aggn | exact Wk.tupn)); first | done | fail) ?_ | refine LeH.skip ?_))⟩, by dsimp only; omega⟩) | (exfalso; omega) | (exfalso; have q := (by assumption : false ≠ decide (r.x - 1 + (j : Int) < s2)); rw [decide_eq_false (by omega)] at q; exact q rfl))
      · have hje : j = r.w.toNat + 2 := by omega
        rcases hsp with ⟨e1, e2⟩ | ⟨e1, e2, e3, e4⟩
        · have ev : v = false := by
            cases v with
            | false => rfl
            | true => obtain ⟨m, _, m1, m2⟩ := hv.1 rfl; omega
          subst ev; subst e1; subst e2
          rw [show decide ((0 : Int) < 0) = false from rfl] at hw8
          subst hw8
          (repeat' (first | (refine iS ?_; refine iMu ?_; refine S.mapU ?_) | refine svz ⟨fun b hq => ?_⟩ | refine sv1 ?_ | refine svs ⟨?_⟩ | refine svu ⟨fun u => ?_⟩ | (refine svg (fun hg => ?_) (fun hg => ?_) <;> try (exfalso; first | omega | contradiction)) | (refine svc (fun hc => ?_) (fun hc => ?_) <;> try (exfalso; first | omega | contradiction)) | refine sv2 ?_ | refine svh (fun hb => ?_) (fun hb => ?_) | refine svb (fun b => ?_) | refine sva ?_ | refine sv3 ?_))
          refine S.call ?_; refine (awake_c _).mono ?_; rintro r h' ⟨rfl, hh⟩; subst hh
          (repeat' (first | (refine iS ?_; refine iMu ?_; refine S.mapU ?_) | refine svz ⟨fun b hq => ?_⟩ | refine sv1 ?_ | refine svs ⟨?_⟩ | refine svu ⟨fun u => ?_⟩ | (refine svg (fun hg => ?_) (fun hg => ?_) <;> try (exfalso; first | omega | contradiction)) | (refine svc (fun hc => ?_) (fun hc => ?_) <;> try (exfalso; first | omega | contradiction)) | refine sv2 ?_ | refine svh (fun hb => ?_) (fun hb => ?_) | refine svb (fun b => ?_) | refine sva ?_ | refine sv3 ?_))
          exact fin_r (h' := _) rfl
        · have ev : v = true := hv.2 ⟨(s1 - (r.x - 1)).toNat, by omega, by omega, by omega⟩
          subst ev
          rw [decide_eq_true e1] at hw8
          subst hw8
          (repeat' (first | (refine iS ?_; refine iMu ?_; refine S.mapU ?_) | refine svz ⟨fun b hq => ?_⟩ | refine sv1 ?_ | refine svs ⟨?_⟩ | refine svu ⟨fun u => ?_⟩ | (refine svg (fun hg => ?_) (fun hg => ?_) <;> try (exfalso; first | omega | contradiction)) | (refine svc (fun hc => ?_) (fun hc => ?_) <;> try (exfalso; first | omega | contradiction)) | refine sv2 ?_ | refine svh (fun hb => ?_) (fun hb => ?_) | refine svb (fun b => ?_) | refine sva ?_ | refine sv3 ?_))
          refine S.call ?_; refine (awake_c _).mono ?_; rintro r h' ⟨rfl, hh⟩; subst hh
          (repeat' (first | (refine iS ?_; refine iMu ?_; refine S.mapU ?_) | refine svz ⟨fun b hq => ?_⟩ | refine sv1 ?_ | refine svs ⟨?_⟩ | refine svu ⟨fun u => ?_⟩ | (refine svg (fun hg => ?_) (fun hg => ?_) <;> try (exfalso; first | omega | contradiction)) | (refine svc (fun hc => ?_) (fun hc => ?_) <;> try (exfalso; first | omega | contradiction)) | refine sv2 ?_ | refine svh (fun hb => ?_) (fun hb => ?_) | refine svb (fun b => ?_) | refine sva ?_ | refine sv3 ?_))
          exact fin_r (h' := _) rfl
    · rcases hsp with ⟨e1, e2⟩ | ⟨_, _, _, e4⟩
      · subst e1; subst e2
        rw [show decide ((0 : Int) < 0) = false from rfl] at hw8
        subst hw8
        refine ACalls.intro Try.func3 rfl Try.ntmps3 Try.results3 (Nat.le_of_ble_eq_true rfl) ?_
        (repeat' (first | (refine iS ?_; refine iMu ?_; refine S.mapU ?_) | refine svz ⟨fun b hq => ?_⟩ | refine sv1 ?_ | refine svs ⟨?_⟩ | refine svu ⟨fun u => ?_⟩ | (refine svg (fun hg => ?_) (fun hg => ?_) <;> try (exfalso; first | omega | contradiction)) | (refine svc (fun hc => ?_) (fun hc => ?_) <;> try (exfalso; first | omega | contradiction)) | refine sv2 ?_ | refine svh (fun hb => ?_) (fun hb => ?_) | refine svb (fun b => ?_) | refine sva ?_ | refine sv3 ?_))
        refine S.call ?_; refine (hr' _).mono ?_; rintro r h' ⟨rfl, hh⟩; subst hh
        (repeat' (first | (refine iS ?_; refine iMu ?_; refine S.mapU ?_) | refine svz ⟨fun b hq => ?_⟩ | refine sv1 ?_ | refine svs ⟨?_⟩ | refine svu ⟨fun u => ?_⟩ | (refine svg (fun hg => ?_) (fun hg => ?_) <;> try (exfalso; first | omega | contradiction)) | (refine svc (fun hc => ?_) (fun hc => ?_) <;> try (exfalso; first | omega | contradiction)) | refine sv2 ?_ | refine svh (fun hb => ?_) (fun hb => ?_) | refine svb (fun b => ?_) | refine sva ?_ | refine sv3 ?_))
        refine S.call ?_; refine (s0 _).mono ?_; rintro r h' ⟨rfl, hh⟩; subst hh
        (repeat' (first | (refine iS ?_; refine iMu ?_; refine S.mapU ?_) | refine svz ⟨fun b hq => ?_⟩ | refine sv1 ?_ | refine svs ⟨?_⟩ | refine svu ⟨fun u => ?_⟩ | (refine svg (fun hg => ?_) (fun hg => ?_) <;> try (exfalso; first | omega | contradiction)) | (refine svc (fun hc => ?_) (fun hc => ?_) <;> try (exfalso; first | omega | contradiction)) | refine sv2 ?_ | refine svh (fun hb => ?_) (fun hb => ?_) | refine svb (fun b => ?_) | refine sva ?_ | refine sv3 ?_))
        refine S.call ?_; refine (w0 _).mono ?_; rintro r h' ⟨rfl, hh⟩; subst hh
        (repeat' (first | (refine iS ?_; refine iMu ?_; refine S.mapU ?_) | refine svz ⟨fun b hq => ?_⟩ | refine sv1 ?_ | refine svs ⟨?_⟩ | refine svu ⟨fun u => ?_⟩ | (refine svg (fun hg => ?_) (fun hg => ?_) <;> try (exfalso; first | omega | contradiction)) | (refine svc (fun hc => ?_) (fun hc => ?_) <;> try (exfalso; first | omega | contradiction)) | refine sv2 ?_ | refine svh (fun hb => ?_) (fun hb => ?_) | refine svb (fun b => ?_) | refine sva ?_ | refine sv3 ?_))
        all_goals (
        refine S.call ?_; refine (awake_c _).mono ?_; rintro r h' ⟨rfl, hh⟩; subst hh
        (repeat' (first | (refine iS ?_; refine iMu ?_; refine S.mapU ?_) | refine svz ⟨fun b hq => ?_⟩ | refine sv1 ?_ | refine svs ⟨?_⟩ | refine svu ⟨fun u => ?_⟩ | (refine svg (fun hg => ?_) (fun hg => ?_) <;> try (exfalso; first | omega | contradiction)) | (refine svc (fun hc => ?_) (fun hc => ?_) <;> try (exfalso; first | omega | contradiction)) | refine sv2 ?_ | refine svh (fun hb => ?_) (fun hb => ?_) | refine svb (fun b => ?_) | refine sva ?_ | refine sv3 ?_))
        exact fin_r (h' := _) rfl)
      · exact absurd e4 hyy
  · have e : spanF r y = (0, 0) := if_neg hk
    have e0 : errF r ≠ 0 := fun q => hk (errF_0.1 q)
    rw [e] at s0
    generalize errF r = e1 at *
    refine ACalls.intro Try.func3 rfl Try.ntmps3 Try.results3 (Nat.le_of_ble_eq_true rfl) ?_
    (repeat' (first | (refine iS ?_; refine iMu ?_; refine S.mapU ?_) | refine svz ⟨fun b hq => ?_⟩ | refine sv1 ?_ | refine svs ⟨?_⟩ | refine svu ⟨fun u => ?_⟩ | (refine svg (fun hg => ?_) (fun hg => ?_) <;> try (exfalso; first | omega | contradiction)) | (refine svc (fun hc => ?_) (fun hc => ?_) <;> try (exfalso; first | omega | contradiction)) | refine sv2 ?_ | refine svh (fun hb => ?_) (fun hb => ?_) | refine svb (fun b => ?_) | refine sva ?_ | refine sv3 ?_))
    refine S.call ?_; refine (hr' _).mono ?_; rintro r h' ⟨rfl, hh⟩; subst hh
    (repeat' (first | (refine iS ?_; refine iMu ?_; refine S.mapU ?_) | refine svz ⟨fun b hq => ?_⟩ | refine sv1 ?_ | refine svs ⟨?_⟩ | refine svu ⟨fun u => ?_⟩ | (refine svg (fun hg => ?_) (fun hg => ?_) <;> try (exfalso; first | omega | contradiction)) | (refine svc (fun hc => ?_) (fun hc => ?_) <;> try (exfalso; first | omega | contradiction)) | refine sv2 ?_ | refine svh (fun hb => ?_) (fun hb => ?_) | refine svb (fun b => ?_) | refine sva ?_ | refine sv3 ?_))
    refine S.call ?_; refine (s0 _).mono ?_; rintro r h' ⟨rfl, hh⟩; subst hh
    (repeat' (first | (refine iS ?_; refine iMu ?_; refine S.mapU ?_) | refine svz ⟨fun b hq => ?_⟩ | refine sv1 ?_ | refine svs ⟨?_⟩ | refine svu ⟨fun u => ?_⟩ | (refine svg (fun hg => ?_) (fun hg => ?_) <;> try (exfalso; first | omega | contradiction)) | (refine svc (fun hc => ?_) (fun hc => ?_) <;> try (exfalso; first | omega | contradiction)) | refine sv2 ?_ | refine svh (fun hb => ?_) (fun hb => ?_) | refine svb (fun b => ?_) | refine sva ?_ | refine sv3 ?_))
    refine S.call ?_; refine (w0 _).mono ?_; rintro r h' ⟨rfl, hh⟩; subst hh
    (repeat' (first | (refine iS ?_; refine iMu ?_; refine S.mapU ?_) | refine svz ⟨fun b hq => ?_⟩ | refine sv1 ?_ | refine svs ⟨?_⟩ | refine svu ⟨fun u => ?_⟩ | (refine svg (fun hg => ?_) (fun hg => ?_) <;> try (exfalso; first | omega | contradiction)) | (refine svc (fun hc => ?_) (fun hc => ?_) <;> try (exfalso; first | omega | contradiction)) | refine sv2 ?_ | refine svh (fun hb => ?_) (fun hb => ?_) | refine svb (fun b => ?_) | refine sva ?_ | refine sv3 ?_))
    refine S.call ?_; refine (awake_c _).mono ?_; rintro r h' ⟨rfl, hh⟩; subst hh
    (repeat' (first | (refine iS ?_; refine iMu ?_; refine S.mapU ?_) | refine svz ⟨fun b hq => ?_⟩ | refine sv1 ?_ | refine svs ⟨?_⟩ | refine svu ⟨fun u => ?_⟩ | (refine svg (fun hg => ?_) (fun hg => ?_) <;> try (exfalso; first | omega | contradiction)) | (refine svc (fun hc => ?_) (fun hc => ?_) <;> try (exfalso; first | omega | contradiction)) | refine sv2 ?_ | refine svh (fun hb => ?_) (fun hb => ?_) | refine svb (fun b => ?_) | refine sva ?_ | refine sv3 ?_))
    exact fin_r (h' := _) rfl
end Go.Proofs.Ytmkpffckhdofbaa
