/- poly.Region. No condition. -/
import Derived.Test.YtkeclfcjmdhcfaaO11
import Derived.Test.YtkeclfcjmdhcfaaO12
import Derived.Test.YtkeclfcjmdhcfaaO14
namespace Go.Proofs.Ytkeclfcjmdhcfaa
open Go Go.VM
attribute [local irreducible] PurV Pur Step RL W D ACalls Then InBlock Fini
set_option linter.unusedVariables false
set_option linter.unusedSimpArgs false
set_option maxHeartbeats 20000000
instance fun_region1 : TFun Try.prog 37 := ⟨by kernel_rfl⟩
theorem prects_ro (rule f t lo hi : Int) (l : List PT) (fv : AV) (g : Nat) (caps : List AV) [TFun Try.prog g] (hF : Fv fv g caps) (h : Heap) (hft : f ≤ t) (hfl : -1048576 ≤ f) (htl : t ≤ 1048576) (hs : t - f ≤ 4096) (hlo : -1048576 ≤ lo) (hhi : hi ≤ 1048576) (hl : l.length ≤ 14)
    (hT : ∀ y, f ≤ y → y < t → ACalls Try.prog g ([.val (.int .i64 (y))] ++ caps) h (fun r h' => ∃ v R, r = .val v ∧ RowF rule y lo hi l R ∧ h' = .own v 4 (R.map RC.enc) 60 :: h)) :
    ACalls Try.prog 36 [.val (.int .i64 (f)), .val (.int .i64 (t)), fv] h (fun r h' => ∃ D, r = .ro 4 (D.map RC.enc) ∧ (∃ O L, D = O ++ L ∧ RectsI rule lo hi f l t O L) ∧ h' = h) := by
  refine (prects_c rule f t lo hi l fv g caps hF h hft hfl htl hs hlo hhi hl hT).frzo ?_
  rintro r h' ⟨v, O, L, rfl, hI, rfl⟩
  exact .inr ⟨v, 4, _, _, _, h, .here, .hit, O ++ L, rfl, ⟨O, L, rfl, hI⟩, rfl⟩
set_option maxRecDepth 100000 in
theorem region1_c (r y lo hi : Int) (l : List PT) (b2 b3 b4 b8 b9 : Nat) (a1 a2 a3 a4 : Int) (h : Heap) (hl : l.length ≤ 256) (hnr : ∀ p ∈ l, p.near) (hy : nearI y) (hlo : -1048576 ≤ lo) (hhi : hi ≤ 1048576) (hx : ∀ q ∈ l, lo ≤ q.x ∧ q.x ≤ hi) :
    ACalls Try.prog 37 [.val (.int .i64 (y)), .val (.pointer (some ⟨b2, 0, none⟩)), .val (.pointer (some ⟨b3, 0, none⟩))] (.box b9 [.val (.int .i64 (a1)), .val (.int .i64 (a2))] 23 :: .box b8 [.val (.int .i64 (a3)), .val (.int .i64 (a4))] 23 :: .box b4 [.val (.slice none 0 0)] 38 :: .box b3 [.ro 2 (l.map PT.enc)] 24 :: .box b2 [.val (.int .i64 (r))] 3 :: h) (fun v h' => ∃ u R, v = .val u ∧ RowF r y lo hi l R ∧ h' = .own u 4 (R.map RC.enc) 60 :: .box b9 [.val (.int .i64 (a1)), .val (.int .i64 (a2))] 23 :: .box b8 [.val (.int .i64 (a3)), .val (.int .i64 (a4))] 23 :: .box b4 [.val (.slice none 0 0)] 38 :: .box b3 [.ro 2 (l.map PT.enc)] 24 :: .box b2 [.val (.int .i64 (r))] 3 :: h) := by
  have rc := fun h => row_c r y lo hi l h hl hnr hy hlo hhi hx
  refine ACalls.intro Try.func37 rfl Try.ntmps37 Try.results37 (Nat.le_of_ble_eq_true rfl) ?_
  (repeat' (first | (refine iS ?_; refine iMu ?_; refine S.mapU ?_) | refine svz ⟨fun b hq => ?_⟩ | refine sv1 ?_ | refine svs ⟨?_⟩ | refine svu ⟨fun u => ?_⟩ | (refine svg (fun hg => ?_) (fun hg => ?_) <;> try (exfalso; first | omega | contradiction)) | (refine svc (fun hc => ?_) (fun hc => ?_) <;> try (exfalso; first | omega | contradiction)) | refine sv2 ?_ | refine svh (fun hb => ?_) (fun hb => ?_) | refine svb (fun b => ?_) | refine sva ?_ | refine sv3 ?_))
  refine S.call ?_
  refine (rc _).mono ?_
  rintro v h' ⟨u, R, rfl, hR, hh⟩; subst hh
  (repeat' (first | (refine iS ?_; refine iMu ?_; refine S.mapU ?_) | refine svz ⟨fun b hq => ?_⟩ | refine sv1 ?_ | refine svs ⟨?_⟩ | refine svu ⟨fun u => ?_⟩ | (refine svg (fun hg => ?_) (fun hg => ?_) <;> try (exfalso; first | omega | contradiction)) | (refine svc (fun hc => ?_) (fun hc => ?_) <;> try (exfalso; first | omega | contradiction)) | refine sv2 ?_ | refine svh (fun hb => ?_) (fun hb => ?_) | refine svb (fun b => ?_) | refine sva ?_ | refine sv3 ?_))
  exact fin_r (h' := _) ⟨u, R, rfl, hR, rfl⟩
theorem ok_of {r : RC} (h : r.cnt) : r.ok := by
  unfold RC.cnt fitP at h
  constructor <;> (unfold I64; omega)
theorem polyD_few {r : Int} {l : List PT} (h : l.length < 3) : PolyD r l [] := ⟨fun _ h => (by cases h), fun x z => by rw [turns_few h]; unfold insF; split <;> rfl⟩
set_option maxRecDepth 100000 in
theorem region_c0 (r : Int) (l : List PT) (h : Heap) (hl : checkF r l = 0 → l.length ≤ 14) : ACalls Try.prog 19 [.val (.int .i64 (r)), .ro 2 (l.map PT.enc)] h (fun v h' => (v = .tup [.agg [.val (.slice none 0 0)], .val (.int .i64 (checkF r l))] ∧ (checkF r l = 0 → l.length < 3) ∨ (checkF r l = 0 ∧ 3 ≤ l.length ∧ ∃ D, PolyD r l D ∧ v = .tup [regE (ofF D), .val (.int .i64 (0))])) ∧ h' = h) := by
  have hkn := fun h => known_c r h
  have cc := coord_c
  by_cases hk : knownF r = true
  · rw [hk] at hkn
    by_cases h4 : 256 < l.length
    · rw [show checkF r l = 5 by unfold checkF; rw [if_pos hk, if_pos h4]]
      refine ACalls.intro Try.func19 rfl Try.ntmps19 Try.results19 (Nat.le_of_ble_eq_true rfl) ?_
      refine W.len 1 rfl (fun hll => ?_); simp only [ints, splice, List.length_map, List.length_append, List.length_cons, List.length_nil, List.length_take, List.length_drop, List.length_set, List.length_replicate] at hll
      (repeat' (first | (refine iS ?_; refine iMu ?_; refine S.mapU ?_) | refine svz ⟨fun b hq => ?_⟩ | refine sv1 ?_ | refine svs ⟨?_⟩ | refine svu ⟨fun u => ?_⟩ | (refine svg (fun hg => ?_) (fun hg => ?_) <;> try (exfalso; first | omega | contradiction)) | (refine svc (fun hc => ?_) (fun hc => ?_) <;> try (exfalso; first | omega | contradiction)) | refine sv2 ?_ | refine svh (fun hb => ?_) (fun hb => ?_) | refine svb (fun b => ?_) | refine sva ?_ | refine sv3 ?_))
      refine S.call ?_; refine (hkn _).mono ?_; rintro r h' ⟨rfl, hh⟩; subst hh
      (repeat' (first | (refine iS ?_; refine iMu ?_; refine S.mapU ?_) | refine svz ⟨fun b hq => ?_⟩ | refine sv1 ?_ | refine svs ⟨?_⟩ | refine svu ⟨fun u => ?_⟩ | (refine svg (fun hg => ?_) (fun hg => ?_) <;> try (exfalso; first | omega | contradiction)) | (refine svc (fun hc => ?_) (fun hc => ?_) <;> try (exfalso; first | omega | contradiction)) | refine sv2 ?_ | refine svh (fun hb => ?_) (fun hb => ?_) | refine svb (fun b => ?_) | refine sva ?_ | refine sv3 ?_))
      exact fin_r (h' := h) ⟨.inl ⟨rfl, fun q => absurd q (by decide)⟩, rfl⟩
    have e1 : allNear l = false → checkF r l = 1 := fun e => by unfold checkF; rw [if_pos hk, if_neg h4, e]; rfl
    have e2 : allNear l = true → closeB l = false → checkF r l = 17 := fun e e' => by unfold checkF; rw [if_pos hk, if_neg h4, e, e']; rfl
    have e3 : allNear l = true → closeB l = true → checkF r l = 0 := fun e e' => by unfold checkF; rw [if_pos hk, if_neg h4, e, e']; rfl
    generalize checkF r l = c at *
    refine ACalls.intro Try.func19 rfl Try.ntmps19 Try.results19 (Nat.le_of_ble_eq_true rfl) ?_
    (repeat' (first | (refine iS ?_; refine iMu ?_; refine S.mapU ?_) | refine svz ⟨fun b hq => ?_⟩ | refine sv1 ?_ | refine svs ⟨?_⟩ | refine svu ⟨fun u => ?_⟩ | (refine svg (fun hg => ?_) (fun hg => ?_) <;> try (exfalso; first | omega | contradiction)) | (refine svc (fun hc => ?_) (fun hc => ?_) <;> try (exfalso; first | omega | contradiction)) | refine sv2 ?_ | refine svh (fun hb => ?_) (fun hb => ?_) | refine svb (fun b => ?_) | refine sva ?_ | refine sv3 ?_))
    rename_i b2 b3
    revert b; intro b4
    refine S.call ?_; refine (hkn _).mono ?_; rintro r h' ⟨rfl, hh⟩; subst hh
    (repeat' (first | (refine iS ?_; refine iMu ?_; refine S.mapU ?_) | refine svz ⟨fun b hq => ?_⟩ | refine sv1 ?_ | refine svs ⟨?_⟩ | refine svu ⟨fun u => ?_⟩ | (refine svg (fun hg => ?_) (fun hg => ?_) <;> try (exfalso; first | omega | contradiction)) | (refine svc (fun hc => ?_) (fun hc => ?_) <;> try (exfalso; first | omega | contradiction)) | refine sv2 ?_ | refine svh (fun hb => ?_) (fun hb => ?_) | refine svb (fun b => ?_) | refine sva ?_ | refine sv3 ?_))
    refine W.loop (J := fun i : Nat => ⟨105, [(22, .val (.int .i64 (i))), (21, .val (.int .i64 (l.length))), (20, .ro 2 (l.map PT.enc)), (5, .val (.int .i64 (0))), (4, .val (.pointer (some ⟨b4, 0, none⟩))), (3, .val (.pointer (some ⟨b3, 0, none⟩))), (2, .val (.pointer (some ⟨b2, 0, none⟩)))], .box b4 [.val (.slice none 0 0)] 38 :: .box b3 [.ro 2 (l.map PT.enc)] 24 :: .box b2 [.val (.int .i64 (r))] 3 :: h⟩)
      (Φ := fun i => i ≤ l.length ∧ allNear (l.take i) = true) (μ := fun i => l.length - i) 0 ⟨rfl, (by repeat (first | exact LeT.nil | refine LeT.cons rfl ?_ | refine LeT.consw rfl (by (repeat (first | exact Wk.refl _ | exact Wk.nilr _ | exact Wk.nilm | apply Wk.aggc | apply Wk.tupc | exact Wk.aggn | exact Wk.tupn)); first | done | fail) ?_)), (by repeat (first | exact LeH.refl _ | exact LeH.nil _ | refine LeH.cons (by (fail_if_success (apply tkG)); (repeat (first | exact Tk.here | apply Tk.there)); first | done | fail) ?_ | refine LeH.boxw (by (fail_if_success (apply tkG)); (repeat (first | exact Tk.here | apply Tk.there)); first | done | fail) (by (repeat (first | exact Wk.refl _ | exact Wk.nilr _ | exact Wk.nilm | apply Wk.aggc | apply Wk.tupc | exact Wk.aggn | exact Wk.tupn)); first | done | fail) ?_ | refine LeH.skip ?_))⟩ ⟨Nat.zero_le _, rfl⟩ ?_
    rintro i ⟨hi, ha⟩
    rcases Nat.lt_or_ge i l.length with hlt | hge
    · obtain ⟨p, hp⟩ : ∃ p, l[i]? = some p := ⟨_, List.getElem?_eq_getElem hlt⟩
      have hx := cc p.x
      have hy := cc p.y
      have no := allNear_no hp
      have yes := fun q => allNear_succ hp q ha
      clear cc ha e2 e3 hkn
      by_cases g1 : nearI p.x
      · rw [decide_eq_true g1] at hx
        by_cases g2 : nearI p.y
        · rw [decide_eq_true g2] at hy
          clear e1 no
          (repeat' (first | (refine iS ?_; refine iMu ?_; refine S.mapU ?_) | refine svz ⟨fun b hq => ?_⟩ | refine sv1 ?_ | refine svs ⟨?_⟩ | refine svu ⟨fun u => ?_⟩ | (refine svg (fun hg => ?_) (fun hg => ?_) <;> try (exfalso; first | omega | contradiction)) | (refine svc (fun hc => ?_) (fun hc => ?_) <;> try (exfalso; first | omega | contradiction)) | refine sv2 ?_ | refine svh (fun hb => ?_) (fun hb => ?_) | refine svb (fun b => ?_) | refine sva ?_ | refine sv3 ?_))
          refine S.call ?_; refine (hx _).mono ?_; rintro r h' ⟨rfl, hh⟩; subst hh
          (repeat' (first | (refine iS ?_; refine iMu ?_; refine S.mapU ?_) | refine svz ⟨fun b hq => ?_⟩ | refine sv1 ?_ | refine svs ⟨?_⟩ | refine svu ⟨fun u => ?_⟩ | (refine svg (fun hg => ?_) (fun hg => ?_) <;> try (exfalso; first | omega | contradiction)) | (refine svc (fun hc => ?_) (fun hc => ?_) <;> try (exfalso; first | omega | contradiction)) | refine sv2 ?_ | refine svh (fun hb => ?_) (fun hb => ?_) | refine svb (fun b => ?_) | refine sva ?_ | refine sv3 ?_))
          refine S.call ?_; refine (hy _).mono ?_; rintro r h' ⟨rfl, hh⟩; subst hh
          (repeat' (first | (refine iS ?_; refine iMu ?_; refine S.mapU ?_) | refine svz ⟨fun b hq => ?_⟩ | refine sv1 ?_ | refine svs ⟨?_⟩ | refine svu ⟨fun u => ?_⟩ | (refine svg (fun hg => ?_) (fun hg => ?_) <;> try (exfalso; first | omega | contradiction)) | (refine svc (fun hc => ?_) (fun hc => ?_) <;> try (exfalso; first | omega | contradiction)) | refine sv2 ?_ | refine svh (fun hb => ?_) (fun hb => ?_) | refine svb (fun b => ?_) | refine sva ?_ | refine sv3 ?_))
          exact ⟨i + 1, ⟨hlt, yes ⟨g1, g2⟩⟩, ⟨rfl, (by repeat (first | exact LeT.nil | refine LeT.cons rfl ?_ | refine LeT.consw rfl (by (repeat (first | exact Wk.refl _ | exact Wk.nilr _ | exact Wk.nilm | apply Wk.aggc | apply Wk.tupc | exact Wk.aggn | exact Wk.tupn)); first | done | fail) ?_)), (by repeat (first | exact LeH.refl _ | exact LeH.nil _ | refine LeH.cons (by (fail_if_success (apply tkG)); (repeat (first | exact Tk.here | apply Tk.there)); first | done | fail) ?_ | refine LeH.boxw (by (fail_if_success (apply tkG)); (repeat (first | exact Tk.here | apply Tk.there)); first | done | fail) (by (repeat (first | exact Wk.refl _ | exact Wk.nilr _ | exact Wk.nilm | apply Wk.aggc | apply Wk.tupc | exact Wk.aggn | exact Wk.tupn)); first | done | fail) ?_ | refine LeH.skip ?_))⟩, by omega⟩
        · rw [decide_eq_false g2] at hy
          have hc := e1 (no fun q => g2 q.2)
          clear e1 no yes
          subst hc
          (repeat' (first | (refine iS ?_; refine iMu ?_; refine S.mapU ?_) | refine svz ⟨fun b hq => ?_⟩ | refine sv1 ?_ | refine svs ⟨?_⟩ | refine svu ⟨fun u => ?_⟩ | (refine svg (fun hg => ?_) (fun hg => ?_) <;> try (exfalso; first | omega | contradiction)) | (refine svc (fun hc => ?_) (fun hc => ?_) <;> try (exfalso; first | omega | contradiction)) | refine sv2 ?_ | refine svh (fun hb => ?_) (fun hb => ?_) | refine svb (fun b => ?_) | refine sva ?_ | refine sv3 ?_))
          refine S.call ?_; refine (hx _).mono ?_; rintro r h' ⟨rfl, hh⟩; subst hh
          (repeat' (first | (refine iS ?_; refine iMu ?_; refine S.mapU ?_) | refine svz ⟨fun b hq => ?_⟩ | refine sv1 ?_ | refine svs ⟨?_⟩ | refine svu ⟨fun u => ?_⟩ | (refine svg (fun hg => ?_) (fun hg => ?_) <;> try (exfalso; first | omega | contradiction)) | (refine svc (fun hc => ?_) (fun hc => ?_) <;> try (exfalso; first | omega | contradiction)) | refine sv2 ?_ | refine svh (fun hb => ?_) (fun hb => ?_) | refine svb (fun b => ?_) | refine sva ?_ | refine sv3 ?_))
          refine S.call ?_; refine (hy _).mono ?_; rintro r h' ⟨rfl, hh⟩; subst hh
          (repeat' (first | (refine iS ?_; refine iMu ?_; refine S.mapU ?_) | refine svz ⟨fun b hq => ?_⟩ | refine sv1 ?_ | refine svs ⟨?_⟩ | refine svu ⟨fun u => ?_⟩ | (refine svg (fun hg => ?_) (fun hg => ?_) <;> try (exfalso; first | omega | contradiction)) | (refine svc (fun hc => ?_) (fun hc => ?_) <;> try (exfalso; first | omega | contradiction)) | refine sv2 ?_ | refine svh (fun hb => ?_) (fun hb => ?_) | refine svb (fun b => ?_) | refine sva ?_ | refine sv3 ?_))
          exact fin_r (h' := h) ⟨.inl ⟨rfl, fun q => absurd q (by decide)⟩, rfl⟩
      · rw [decide_eq_false g1] at hx
        have hc := e1 (no fun q => g1 q.1)
        clear e1 no yes
        subst hc
        (repeat' (first | (refine iS ?_; refine iMu ?_; refine S.mapU ?_) | refine svz ⟨fun b hq => ?_⟩ | refine sv1 ?_ | refine svs ⟨?_⟩ | refine svu ⟨fun u => ?_⟩ | (refine svg (fun hg => ?_) (fun hg => ?_) <;> try (exfalso; first | omega | contradiction)) | (refine svc (fun hc => ?_) (fun hc => ?_) <;> try (exfalso; first | omega | contradiction)) | refine sv2 ?_ | refine svh (fun hb => ?_) (fun hb => ?_) | refine svb (fun b => ?_) | refine sva ?_ | refine sv3 ?_))
        refine S.call ?_; refine (hx _).mono ?_; rintro r h' ⟨rfl, hh⟩; subst hh
        (repeat' (first | (refine iS ?_; refine iMu ?_; refine S.mapU ?_) | refine svz ⟨fun b hq => ?_⟩ | refine sv1 ?_ | refine svs ⟨?_⟩ | refine svu ⟨fun u => ?_⟩ | (refine svg (fun hg => ?_) (fun hg => ?_) <;> try (exfalso; first | omega | contradiction)) | (refine svc (fun hc => ?_) (fun hc => ?_) <;> try (exfalso; first | omega | contradiction)) | refine sv2 ?_ | refine svh (fun hb => ?_) (fun hb => ?_) | refine svb (fun b => ?_) | refine sva ?_ | refine sv3 ?_))
        exact fin_r (h' := h) ⟨.inl ⟨rfl, fun q => absurd q (by decide)⟩, rfl⟩
    · rw [List.take_of_length_le hge] at ha
      have hnr := allNear_iff.1 ha
      have e2' := e2 ha
      have e3' := e3 ha
      clear e1 e2 e3 cc hkn
      by_cases h0 : l = []
      · subst h0
        have hc := e3' rfl
        subst hc
        (repeat' (first | (refine iS ?_; refine iMu ?_; refine S.mapU ?_) | refine svz ⟨fun b hq => ?_⟩ | refine sv1 ?_ | refine svs ⟨?_⟩ | refine svu ⟨fun u => ?_⟩ | (refine svg (fun hg => ?_) (fun hg => ?_) <;> try (exfalso; first | omega | contradiction)) | (refine svc (fun hc => ?_) (fun hc => ?_) <;> try (exfalso; first | omega | contradiction)) | refine sv2 ?_ | refine svh (fun hb => ?_) (fun hb => ?_) | refine svb (fun b => ?_) | refine sva ?_ | refine sv3 ?_))
        exact fin_r (h' := h) ⟨.inl ⟨rfl, fun _ => by decide⟩, rfl⟩
      have hlp := List.length_pos_iff.2 h0
      obtain ⟨p0, hp0⟩ : ∃ p, l[0]? = some p := ⟨_, List.getElem?_eq_getElem hlp⟩
      have hm0 := List.mem_of_getElem? hp0
      have hcl := closeB_hl hm0
      (repeat' (first | (refine iS ?_; refine iMu ?_; refine S.mapU ?_) | refine svz ⟨fun b hq => ?_⟩ | refine sv1 ?_ | refine svs ⟨?_⟩ | refine svu ⟨fun u => ?_⟩ | (refine svg (fun hg => ?_) (fun hg => ?_) <;> try (exfalso; first | omega | contradiction)) | (refine svc (fun hc => ?_) (fun hc => ?_) <;> try (exfalso; first | omega | contradiction)) | refine sv2 ?_ | refine svh (fun hb => ?_) (fun hb => ?_) | refine svb (fun b => ?_) | refine sva ?_ | refine sv3 ?_))
      refine R2.alloc2 (fun b8 b9 => ?_)
      (repeat' (first | (refine iS ?_; refine iMu ?_; refine S.mapU ?_) | refine svz ⟨fun b hq => ?_⟩ | refine sv1 ?_ | refine svs ⟨?_⟩ | refine svu ⟨fun u => ?_⟩ | (refine svg (fun hg => ?_) (fun hg => ?_) <;> try (exfalso; first | omega | contradiction)) | (refine svc (fun hc => ?_) (fun hc => ?_) <;> try (exfalso; first | omega | contradiction)) | refine sv2 ?_ | refine svh (fun hb => ?_) (fun hb => ?_) | refine svb (fun b => ?_) | refine sva ?_ | refine sv3 ?_))
      refine W.loop (J := fun i : Nat => ⟨105, [(50, .val (.int .i64 (i))), (49, .val (.int .i64 (l.length))), (48, .ro 2 (l.map PT.enc)), (9, .val (.pointer (some ⟨b9, 0, none⟩))), (8, .val (.pointer (some ⟨b8, 0, none⟩))), (5, .val (.int .i64 (0))), (4, .val (.pointer (some ⟨b4, 0, none⟩))), (3, .val (.pointer (some ⟨b3, 0, none⟩))), (2, .val (.pointer (some ⟨b2, 0, none⟩)))], .box b9 [.val (.int .i64 (hiF PT.x p0.x (l.take i))), .val (.int .i64 (hiF PT.y p0.y (l.take i)))] 23 :: .box b8 [.val (.int .i64 (loF PT.x p0.x (l.take i))), .val (.int .i64 (loF PT.y p0.y (l.take i)))] 23 :: .box b4 [.val (.slice none 0 0)] 38 :: .box b3 [.ro 2 (l.map PT.enc)] 24 :: .box b2 [.val (.int .i64 (r))] 3 :: h⟩)
        (Φ := fun i => i ≤ l.length) (μ := fun i => l.length - i) 0 ⟨rfl, (by repeat (first | exact LeT.nil | refine LeT.cons rfl ?_ | refine LeT.consw rfl (by (repeat (first | exact Wk.refl _ | exact Wk.nilr _ | exact Wk.nilm | apply Wk.aggc | apply Wk.tupc | exact Wk.aggn | exact Wk.tupn)); first | done | fail) ?_)), (by repeat (first | exact LeH.refl _ | exact LeH.nil _ | refine LeH.cons (by (fail_if_success (apply tkG)); (repeat (first | exact Tk.here | apply Tk.there)); first | done | fail) ?_ | refine LeH.boxw (by (fail_if_success (apply tkG)); (repeat (first | exact Tk.here | apply Tk.there)); first | done | fail) (by (repeat (first | exact Wk.refl _ | exact Wk.nilr _ | exact Wk.nilm | apply Wk.aggc | apply Wk.tupc | exact Wk.aggn | exact Wk.tupn)); first | done | fail) ?_ | refine LeH.skip ?_))⟩ (Nat.zero_le _) ?_
      intro i hi
      rcases Nat.lt_or_ge i l.length with hlt | hge
      · obtain ⟨p, hp⟩ : ∃ p, l[i]? = some p := ⟨_, List.getElem?_eq_getElem hlt⟩
        have s1 := fun f a => loF_snoc f a (l.take i) p
        have s2 := fun f a => hiF_snoc f a (l.take i) p
        have tk : l.take (i + 1) = l.take i ++ [p] := by rw [List.take_add_one, hp]; rfl
        rw [← tk] at s1 s2
        have s11 := s1 PT.x p0.x
        have s12 := s1 PT.y p0.y
        have s21 := s2 PT.x p0.x
        have s22 := s2 PT.y p0.y
        clear s1 s2 tk hcl e2' e3' hnr ha
        generalize loF PT.x p0.x (l.take i) = u1 at *
        generalize loF PT.y p0.y (l.take i) = u2 at *
        generalize hiF PT.x p0.x (l.take i) = u3 at *
        generalize hiF PT.y p0.y (l.take i) = u4 at *
        (repeat' (first | (refine iS ?_; refine iMu ?_; refine S.mapU ?_) | refine svz ⟨fun b hq => ?_⟩ | refine sv1 ?_ | refine svs ⟨?_⟩ | refine svu ⟨fun u => ?_⟩ | (refine svg (fun hg => ?_) (fun hg => ?_) <;> try (exfalso; first | omega | contradiction)) | (refine svc (fun hc => ?_) (fun hc => ?_) <;> try (exfalso; first | omega | contradiction)) | refine sv2 ?_ | refine svh (fun hb => ?_) (fun hb => ?_) | refine svb (fun b => ?_) | refine sva ?_ | refine sv3 ?_))
        refine W.midT (J := fun _ : Unit => ⟨105, [(50, .val (.int .i64 (i))), (49, .val (.int .i64 (l.length))), (48, .ro 2 (l.map PT.enc)), (11, .val (.pointer (some ⟨b, 0, none⟩))), (9, .val (.pointer (some ⟨b9, 0, none⟩))), (8, .val (.pointer (some ⟨b8, 0, none⟩))), (5, .val (.int .i64 (0))), (4, .val (.pointer (some ⟨b4, 0, none⟩))), (3, .val (.pointer (some ⟨b3, 0, none⟩))), (2, .val (.pointer (some ⟨b2, 0, none⟩)))], .box b [.val (.int .i64 (p.x)), .val (.int .i64 (p.y))] 23 :: .box b9 [.val (.int .i64 (u3)), .val (.int .i64 (u4))] 23 :: .box b8 [.val (.int .i64 (min u1 p.x)), .val (.int .i64 (min u2 p.y))] 23 :: .box b4 [.val (.slice none 0 0)] 38 :: .box b3 [.ro 2 (l.map PT.enc)] 24 :: .box b2 [.val (.int .i64 (r))] 3 :: h⟩) (Φ := fun _ => True) ?_ ?_
        · refine W.dr (.ro (.ro (.rw (.ro (.ro (.ro (.done _))))))) ?_
          (repeat' (first | (refine iS ?_; refine iMu ?_; refine S.mapU ?_) | refine svz ⟨fun b hq => ?_⟩ | refine sv1 ?_ | refine svs ⟨?_⟩ | refine svu ⟨fun u => ?_⟩ | (refine svg (fun hg => ?_) (fun hg => ?_) <;> try (exfalso; first | omega | contradiction)) | (refine svc (fun hc => ?_) (fun hc => ?_) <;> try (exfalso; first | omega | contradiction)) | refine sv2 ?_ | refine svh (fun hb => ?_) (fun hb => ?_) | refine svb (fun b => ?_) | refine sva ?_ | refine sv3 ?_)); refine R2.congr (todo' := [5, 7, 8, 4, 9, 10, 11, 12, 13, 1, 6]) (fun x => by simp only [List.mem_cons, List.not_mem_nil, or_false]; omega) ?_; (repeat' (first | (refine iS ?_; refine iMu ?_; refine S.mapU ?_) | refine svz ⟨fun b hq => ?_⟩ | refine sv1 ?_ | refine svs ⟨?_⟩ | refine svu ⟨fun u => ?_⟩ | (refine svg (fun hg => ?_) (fun hg => ?_) <;> try (exfalso; first | omega | contradiction)) | (refine svc (fun hc => ?_) (fun hc => ?_) <;> try (exfalso; first | omega | contradiction)) | refine sv2 ?_ | refine svh (fun hb => ?_) (fun hb => ?_) | refine svb (fun b => ?_) | refine sva ?_ | refine sv3 ?_)); refine R2.congr (todo' := [1, 4, 9, 10, 11, 12, 13, 6]) (fun x => by simp only [List.mem_cons, List.not_mem_nil, or_false]; omega) ?_; refine R2.B2 (j := 6) (l2 := [1, 4, 9, 10, 11, 12, 13]) ?_ ?_ (by repeat (first | apply Sn.nil | apply Sn.cons))
          · refine S.L ?_; refine kd ?_; (repeat' (first | (refine iS ?_; refine iMu ?_; refine S.mapU ?_) | refine svz ⟨fun b hq => ?_⟩ | refine sv1 ?_ | refine svs ⟨?_⟩ | refine svu ⟨fun u => ?_⟩ | (refine svg (fun hg => ?_) (fun hg => ?_) <;> try (exfalso; first | omega | contradiction)) | (refine svc (fun hc => ?_) (fun hc => ?_) <;> try (exfalso; first | omega | contradiction)) | refine sv2 ?_ | refine svh (fun hb => ?_) (fun hb => ?_) | refine svb (fun b => ?_) | refine sva ?_ | refine sv3 ?_)); refine R2.congr (todo' := [6, 9, 10, 11, 12, 13]) (fun x => by simp only [List.mem_cons, List.not_mem_nil, or_false]; omega) ?_; refine R2.B ?_; refine S.L ?_; refine kd ?_; (repeat' (first | (refine iS ?_; refine iMu ?_; refine S.mapU ?_) | refine svz ⟨fun b hq => ?_⟩ | refine sv1 ?_ | refine svs ⟨?_⟩ | refine svu ⟨fun u => ?_⟩ | (refine svg (fun hg => ?_) (fun hg => ?_) <;> try (exfalso; first | omega | contradiction)) | (refine svc (fun hc => ?_) (fun hc => ?_) <;> try (exfalso; first | omega | contradiction)) | refine sv2 ?_ | refine svh (fun hb => ?_) (fun hb => ?_) | refine svb (fun b => ?_) | refine sva ?_ | refine sv3 ?_))
            exact ⟨(), trivial, ⟨rfl, (by repeat (first | exact LeT.nil | refine LeT.cons rfl ?_ | refine LeT.consw rfl (by (repeat (first | exact Wk.refl _ | exact Wk.nilr _ | exact Wk.nilm | apply Wk.aggc | apply Wk.tupc | exact Wk.aggn | exact Wk.tupn)); first | done | fail) ?_)), (by repeat (first | exact LeH.refl _ | exact LeH.nil _ | refine LeH.cons (by (fail_if_success (apply tkG)); (repeat (first | exact Tk.here | apply Tk.there)); first | done | fail) ?_ | refine LeH.boxw (by (fail_if_success (apply tkG)); (repeat (first | exact Tk.here | apply Tk.there)); first | done | fail) (by (repeat (first | exact Wk.refl _ | exact Wk.nilr _ | exact Wk.nilm | apply Wk.aggc | apply Wk.tupc | exact Wk.aggn | exact Wk.tupn)); first | done | fail) ?_ | refine LeH.skip ?_))⟩⟩
          · refine S.L ?_; refine kd ?_; refine R2.congr (todo' := [9, 1, 4, 10, 11, 12, 13]) (fun x => by simp only [List.mem_cons, List.not_mem_nil, or_false]; omega) ?_; (repeat' (first | (refine iS ?_; refine iMu ?_; refine S.mapU ?_) | refine svz ⟨fun b hq => ?_⟩ | refine sv1 ?_ | refine svs ⟨?_⟩ | refine svu ⟨fun u => ?_⟩ | (refine svg (fun hg => ?_) (fun hg => ?_) <;> try (exfalso; first | omega | contradiction)) | (refine svc (fun hc => ?_) (fun hc => ?_) <;> try (exfalso; first | omega | contradiction)) | refine sv2 ?_ | refine svh (fun hb => ?_) (fun hb => ?_) | refine svb (fun b => ?_) | refine sva ?_ | refine sv3 ?_)); refine R2.B ?_; refine S.L ?_; refine kd ?_; (repeat' (first | (refine iS ?_; refine iMu ?_; refine S.mapU ?_) | refine svz ⟨fun b hq => ?_⟩ | refine sv1 ?_ | refine svs ⟨?_⟩ | refine svu ⟨fun u => ?_⟩ | (refine svg (fun hg => ?_) (fun hg => ?_) <;> try (exfalso; first | omega | contradiction)) | (refine svc (fun hc => ?_) (fun hc => ?_) <;> try (exfalso; first | omega | contradiction)) | refine sv2 ?_ | refine svh (fun hb => ?_) (fun hb => ?_) | refine svb (fun b => ?_) | refine sva ?_ | refine sv3 ?_))
            exact ⟨(), trivial, ⟨rfl, (by repeat (first | exact LeT.nil | refine LeT.cons rfl ?_ | refine LeT.consw rfl (by (repeat (first | exact Wk.refl _ | exact Wk.nilr _ | exact Wk.nilm | apply Wk.aggc | apply Wk.tupc | exact Wk.aggn | exact Wk.tupn)); first | done | fail) ?_)), (by repeat (first | exact LeH.refl _ | exact LeH.nil _ | refine LeH.cons (by (fail_if_success (apply tkG)); (repeat (first | exact Tk.here | apply Tk.there)); first | done | fail) ?_ | refine LeH.boxw (by (fail_if_success (apply tkG)); (repeat (first | exact Tk.here | apply Tk.there)); first | done | fail) (by (repeat (first | exact Wk.refl _ | exact Wk.nilr _ | exact Wk.nilm | apply Wk.aggc | apply Wk.tupc | exact Wk.aggn | exact Wk.tupn)); first | done | fail) ?_ | refine LeH.skip ?_))⟩⟩
        rintro ⟨⟩ _
        refine W.dr (.ro (.rw (.ro (.ro (.ro (.ro (.done _))))))) ?_
        (repeat' (first | (refine iS ?_; refine iMu ?_; refine S.mapU ?_) | refine svz ⟨fun b hq => ?_⟩ | refine sv1 ?_ | refine svs ⟨?_⟩ | refine svu ⟨fun u => ?_⟩ | (refine svg (fun hg => ?_) (fun hg => ?_) <;> try (exfalso; first | omega | contradiction)) | (refine svc (fun hc => ?_) (fun hc => ?_) <;> try (exfalso; first | omega | contradiction)) | refine sv2 ?_ | refine svh (fun hb => ?_) (fun hb => ?_) | refine svb (fun b => ?_) | refine sva ?_ | refine sv3 ?_)); refine R2.congr (todo' := [5, 7, 8, 4, 9, 10, 11, 12, 13, 1, 6]) (fun x => by simp only [List.mem_cons, List.not_mem_nil, or_false]; omega) ?_; (repeat' (first | (refine iS ?_; refine iMu ?_; refine S.mapU ?_) | refine svz ⟨fun b hq => ?_⟩ | refine sv1 ?_ | refine svs ⟨?_⟩ | refine svu ⟨fun u => ?_⟩ | (refine svg (fun hg => ?_) (fun hg => ?_) <;> try (exfalso; first | omega | contradiction)) | (refine svc (fun hc => ?_) (fun hc => ?_) <;> try (exfalso; first | omega | contradiction)) | refine sv2 ?_ | refine svh (fun hb => ?_) (fun hb => ?_) | refine svb (fun b => ?_) | refine sva ?_ | refine sv3 ?_)); refine R2.congr (todo' := [1, 4, 9, 10, 11, 12, 13, 6]) (fun x => by simp only [List.mem_cons, List.not_mem_nil, or_false]; omega) ?_; refine R2.B2 (j := 6) (l2 := [1, 4, 9, 10, 11, 12, 13]) ?_ ?_ (by repeat (first | apply Sn.nil | apply Sn.cons))
        · refine S.L ?_; refine kd ?_; (repeat' (first | (refine iS ?_; refine iMu ?_; refine S.mapU ?_) | refine svz ⟨fun b hq => ?_⟩ | refine sv1 ?_ | refine svs ⟨?_⟩ | refine svu ⟨fun u => ?_⟩ | (refine svg (fun hg => ?_) (fun hg => ?_) <;> try (exfalso; first | omega | contradiction)) | (refine svc (fun hc => ?_) (fun hc => ?_) <;> try (exfalso; first | omega | contradiction)) | refine sv2 ?_ | refine svh (fun hb => ?_) (fun hb => ?_) | refine svb (fun b => ?_) | refine sva ?_ | refine sv3 ?_)); refine R2.congr (todo' := [6, 9, 10, 11, 12, 13]) (fun x => by simp only [List.mem_cons, List.not_mem_nil, or_false]; omega) ?_; refine R2.B ?_; refine S.L ?_; refine kd ?_; (repeat' (first | (refine iS ?_; refine iMu ?_; refine S.mapU ?_) | refine svz ⟨fun b hq => ?_⟩ | refine sv1 ?_ | refine svs ⟨?_⟩ | refine svu ⟨fun u => ?_⟩ | (refine svg (fun hg => ?_) (fun hg => ?_) <;> try (exfalso; first | omega | contradiction)) | (refine svc (fun hc => ?_) (fun hc => ?_) <;> try (exfalso; first | omega | contradiction)) | refine sv2 ?_ | refine svh (fun hb => ?_) (fun hb => ?_) | refine svb (fun b => ?_) | refine sva ?_ | refine sv3 ?_))
          exact ⟨i + 1, hlt, by rw [s11, s12, s21, s22]; exact ⟨rfl, (by repeat (first | exact LeT.nil | refine LeT.cons rfl ?_ | refine LeT.consw rfl (by (repeat (first | exact Wk.refl _ | exact Wk.nilr _ | exact Wk.nilm | apply Wk.aggc | apply Wk.tupc | exact Wk.aggn | exact Wk.tupn)); first | done | fail) ?_)), (by repeat (first | exact LeH.refl _ | exact LeH.nil _ | refine LeH.cons (by (fail_if_success (apply tkG)); (repeat (first | exact Tk.here | apply Tk.there)); first | done | fail) ?_ | refine LeH.boxw (by (fail_if_success (apply tkG)); (repeat (first | exact Tk.here | apply Tk.there)); first | done | fail) (by (repeat (first | exact Wk.refl _ | exact Wk.nilr _ | exact Wk.nilm | apply Wk.aggc | apply Wk.tupc | exact Wk.aggn | exact Wk.tupn)); first | done | fail) ?_ | refine LeH.skip ?_))⟩, by omega⟩
        · refine S.L ?_; refine kd ?_; refine R2.congr (todo' := [9, 1, 4, 10, 11, 12, 13]) (fun x => by simp only [List.mem_cons, List.not_mem_nil, or_false]; omega) ?_; (repeat' (first | (refine iS ?_; refine iMu ?_; refine S.mapU ?_) | refine svz ⟨fun b hq => ?_⟩ | refine sv1 ?_ | refine svs ⟨?_⟩ | refine svu ⟨fun u => ?_⟩ | (refine svg (fun hg => ?_) (fun hg => ?_) <;> try (exfalso; first | omega | contradiction)) | (refine svc (fun hc => ?_) (fun hc => ?_) <;> try (exfalso; first | omega | contradiction)) | refine sv2 ?_ | refine svh (fun hb => ?_) (fun hb => ?_) | refine svb (fun b => ?_) | refine sva ?_ | refine sv3 ?_)); refine R2.B ?_; refine S.L ?_; refine kd ?_; (repeat' (first | (refine iS ?_; refine iMu ?_; refine S.mapU ?_) | refine svz ⟨fun b hq => ?_⟩ | refine sv1 ?_ | refine svs ⟨?_⟩ | refine svu ⟨fun u => ?_⟩ | (refine svg (fun hg => ?_) (fun hg => ?_) <;> try (exfalso; first | omega | contradiction)) | (refine svc (fun hc => ?_) (fun hc => ?_) <;> try (exfalso; first | omega | contradiction)) | refine sv2 ?_ | refine svh (fun hb => ?_) (fun hb => ?_) | refine svb (fun b => ?_) | refine sva ?_ | refine sv3 ?_))
          exact ⟨i + 1, hlt, by rw [s11, s12, s21, s22]; exact ⟨rfl, (by repeat (first | exact LeT.nil | refine LeT.cons rfl ?_ | refine LeT.consw rfl (by (repeat (first | exact Wk.refl _ | exact Wk.nilr _ | exact Wk.nilm | apply Wk.aggc | apply Wk.tupc | exact Wk.aggn | exact Wk.tupn)); first | done | fail) ?_)), (by repeat (first | exact LeH.refl _ | exact LeH.nil _ | refine LeH.cons (by (fail_if_success (apply tkG)); (repeat (first | exact Tk.here | apply Tk.there)); first | done | fail) ?_ | refine LeH.boxw (by (fail_if_success (apply tkG)); (repeat (first | exact Tk.here | apply Tk.there)); first | done | fail) (by (repeat (first | exact Wk.refl _ | exact Wk.nilr _ | exact Wk.nilm | apply Wk.aggc | apply Wk.tupc | exact Wk.aggn | exact Wk.tupn)); first | done | fail) ?_ | refine LeH.skip ?_))⟩, by omega⟩
      · have hcl := closeB_hl hm0
        have xa := loF_spec PT.x l p0.x
        have xb := hiF_spec PT.x l p0.x
        have ya := loF_spec PT.y l p0.y
        have yb := hiF_spec PT.y l p0.y
        rw [List.take_of_length_le hge]
        have hb : ∀ q ∈ l, (loF PT.x p0.x l ≤ q.x ∧ q.x ≤ hiF PT.x p0.x l) ∧ loF PT.y p0.y l ≤ q.y ∧ q.y ≤ hiF PT.y p0.y l := fun q hq => ⟨⟨xa.2.1 q hq, xb.2.1 q hq⟩, ya.2.1 q hq, yb.2.1 q hq⟩
        have nb : (-1048576 ≤ loF PT.x p0.x l ∧ hiF PT.x p0.x l ≤ 1048576) ∧ (-1048576 ≤ loF PT.y p0.y l ∧ hiF PT.y p0.y l ≤ 1048576) := by
          have k0 := hnr p0 hm0
          unfold PT.near nearI at k0
          refine ⟨⟨?_, ?_⟩, ?_, ?_⟩
          · rcases xa.2.2 with e | ⟨q, hq, e⟩
            · omega
            · have := hnr q hq; unfold PT.near nearI at this; omega
          · rcases xb.2.2 with e | ⟨q, hq, e⟩
            · omega
            · have := hnr q hq; unfold PT.near nearI at this; omega
          · rcases ya.2.2 with e | ⟨q, hq, e⟩
            · omega
            · have := hnr q hq; unfold PT.near nearI at this; omega
          · rcases yb.2.2 with e | ⟨q, hq, e⟩
            · omega
            · have := hnr q hq; unfold PT.near nearI at this; omega
        have o1 := Int.le_trans xa.1 xb.1
        have o2 := Int.le_trans ya.1 yb.1
        clear xa xb ya yb
        generalize loF PT.x p0.x l = lx at *
        generalize loF PT.y p0.y l = ly at *
        generalize hiF PT.x p0.x l = gx at *
        generalize hiF PT.y p0.y l = gy at *
        obtain ⟨⟨nb1, nb2⟩, nb3, nb4⟩ := nb
        have bad : ¬ (gx - lx ≤ 4096 ∧ gy - ly ≤ 4096) → c = 17 := fun g => e2' (by
          cases e : closeB l with
          | false => rfl
          | true => exact absurd (hcl.1 e) g)
        have good : gx - lx ≤ 4096 ∧ gy - ly ≤ 4096 → c = 0 := fun g => e3' (hcl.2 g)
        clear hcl e2' e3'
        by_cases g1 : 4096 < gx - lx
        · have hc := bad (by omega)
          clear bad good hl
          subst hc
          clear hnr hb
          (repeat' (first | (refine iS ?_; refine iMu ?_; refine S.mapU ?_) | refine svz ⟨fun b hq => ?_⟩ | refine sv1 ?_ | refine svs ⟨?_⟩ | refine svu ⟨fun u => ?_⟩ | (refine svg (fun hg => ?_) (fun hg => ?_) <;> try (exfalso; first | omega | contradiction)) | (refine svc (fun hc => ?_) (fun hc => ?_) <;> try (exfalso; first | omega | contradiction)) | refine sv2 ?_ | refine svh (fun hb => ?_) (fun hb => ?_) | refine svb (fun b => ?_) | refine sva ?_ | refine sv3 ?_))
          exact fin_r (h' := h) ⟨.inl ⟨rfl, fun q => absurd q (by decide)⟩, rfl⟩
        by_cases g2 : 4096 < gy - ly
        · have hc := bad (by omega)
          clear bad good hl
          subst hc
          clear hnr hb
          (repeat' (first | (refine iS ?_; refine iMu ?_; refine S.mapU ?_) | refine svz ⟨fun b hq => ?_⟩ | refine sv1 ?_ | refine svs ⟨?_⟩ | refine svu ⟨fun u => ?_⟩ | (refine svg (fun hg => ?_) (fun hg => ?_) <;> try (exfalso; first | omega | contradiction)) | (refine svc (fun hc => ?_) (fun hc => ?_) <;> try (exfalso; first | omega | contradiction)) | refine sv2 ?_ | refine svh (fun hb => ?_) (fun hb => ?_) | refine svb (fun b => ?_) | refine sva ?_ | refine sv3 ?_))
          exact fin_r (h' := h) ⟨.inl ⟨rfl, fun q => absurd q (by decide)⟩, rfl⟩
        have hc := good (by omega)
        clear bad good
        subst hc
        have hl14 := hl rfl
        clear hl
        by_cases h3 : l.length < 3
        · clear hnr hb
          (repeat' (first | (refine iS ?_; refine iMu ?_; refine S.mapU ?_) | refine svz ⟨fun b hq => ?_⟩ | refine sv1 ?_ | refine svs ⟨?_⟩ | refine svu ⟨fun u => ?_⟩ | (refine svg (fun hg => ?_) (fun hg => ?_) <;> try (exfalso; first | omega | contradiction)) | (refine svc (fun hc => ?_) (fun hc => ?_) <;> try (exfalso; first | omega | contradiction)) | refine sv2 ?_ | refine svh (fun hb => ?_) (fun hb => ?_) | refine svb (fun b => ?_) | refine sva ?_ | refine sv3 ?_))
          exact fin_r (h' := h) ⟨.inl ⟨rfl, fun _ => h3⟩, rfl⟩
        have ro := prects_ro r ly gy lx gx l _ 37 _ (.clo _ [.val (.pointer (some ⟨b2, 0, none⟩)), .val (.pointer (some ⟨b3, 0, none⟩))]) (.box b9 [.val (.int .i64 (gx)), .val (.int .i64 (gy))] 23 :: .box b8 [.val (.int .i64 (lx)), .val (.int .i64 (ly))] 23 :: .box b4 [.val (.slice none 0 0)] 38 :: .box b3 [.ro 2 (l.map PT.enc)] 24 :: .box b2 [.val (.int .i64 (r))] 3 :: h) o2 nb3 nb4 (by omega) nb1 nb2 hl14 (fun y h1 h2 => region1_c r y lx gx l b2 b3 b4 b8 b9 gx gy lx ly h (by omega) hnr (by unfold nearI; omega) nb1 nb2 (fun q hq => (hb q hq).1))
        (repeat' (first | (refine iS ?_; refine iMu ?_; refine S.mapU ?_) | refine svz ⟨fun b hq => ?_⟩ | refine sv1 ?_ | refine svs ⟨?_⟩ | refine svu ⟨fun u => ?_⟩ | (refine svg (fun hg => ?_) (fun hg => ?_) <;> try (exfalso; first | omega | contradiction)) | (refine svc (fun hc => ?_) (fun hc => ?_) <;> try (exfalso; first | omega | contradiction)) | refine sv2 ?_ | refine svh (fun hb => ?_) (fun hb => ?_) | refine svb (fun b => ?_) | refine sva ?_ | refine sv3 ?_))
        refine S.call ?_
        refine ro.mono ?_
        rintro v h' ⟨D, rfl, ⟨O, L, rfl, hI⟩, hh⟩; subst hh
        obtain ⟨hc1, hc2⟩ := rectsI_has hI nb1 nb2 nb3 nb4 (fun q hq => (hb q hq).2)
        have hlen : (O ++ L).length ≤ 30000 := by have := hI.len; rw [List.length_append]; omega
        have oo := fun h => of_c (O ++ L) h hlen (fun r hr => ok_of (hc1 r hr))
        have hPD : PolyD r l (O ++ L) := ⟨hc1, hc2⟩
        clear ro hI hc1 hc2 hnr hb
        generalize O ++ L = D at *
        (repeat' (first | (refine iS ?_; refine iMu ?_; refine S.mapU ?_) | refine svz ⟨fun b hq => ?_⟩ | refine sv1 ?_ | refine svs ⟨?_⟩ | refine svu ⟨fun u => ?_⟩ | (refine svg (fun hg => ?_) (fun hg => ?_) <;> try (exfalso; first | omega | contradiction)) | (refine svc (fun hc => ?_) (fun hc => ?_) <;> try (exfalso; first | omega | contradiction)) | refine sv2 ?_ | refine svh (fun hb => ?_) (fun hb => ?_) | refine svb (fun b => ?_) | refine sva ?_ | refine sv3 ?_))
        refine S.call ?_; refine (oo _).mono ?_; rintro r h' ⟨rfl, hh⟩; subst hh
        (repeat' (first | (refine iS ?_; refine iMu ?_; refine S.mapU ?_) | refine svz ⟨fun b hq => ?_⟩ | refine sv1 ?_ | refine svs ⟨?_⟩ | refine svu ⟨fun u => ?_⟩ | (refine svg (fun hg => ?_) (fun hg => ?_) <;> try (exfalso; first | omega | contradiction)) | (refine svc (fun hc => ?_) (fun hc => ?_) <;> try (exfalso; first | omega | contradiction)) | refine sv2 ?_ | refine svh (fun hb => ?_) (fun hb => ?_) | refine svb (fun b => ?_) | refine sva ?_ | refine sv3 ?_))
        exact fin_r (h' := h) ⟨.inr ⟨rfl, by omega, D, hPD, rfl⟩, rfl⟩
  · have hk : knownF r = false := by simpa using hk
    rw [hk] at hkn
    rw [show checkF r l = 10 by unfold checkF; rw [hk]; rfl]
    refine ACalls.intro Try.func19 rfl Try.ntmps19 Try.results19 (Nat.le_of_ble_eq_true rfl) ?_
    (repeat' (first | (refine iS ?_; refine iMu ?_; refine S.mapU ?_) | refine svz ⟨fun b hq => ?_⟩ | refine sv1 ?_ | refine svs ⟨?_⟩ | refine svu ⟨fun u => ?_⟩ | (refine svg (fun hg => ?_) (fun hg => ?_) <;> try (exfalso; first | omega | contradiction)) | (refine svc (fun hc => ?_) (fun hc => ?_) <;> try (exfalso; first | omega | contradiction)) | refine sv2 ?_ | refine svh (fun hb => ?_) (fun hb => ?_) | refine svb (fun b => ?_) | refine sva ?_ | refine sv3 ?_))
    refine S.call ?_; refine (hkn _).mono ?_; rintro r h' ⟨rfl, hh⟩; subst hh
    (repeat' (first | (refine iS ?_; refine iMu ?_; refine S.mapU ?_) | refine svz ⟨fun b hq => ?_⟩ | refine sv1 ?_ | refine svs ⟨?_⟩ | refine svu ⟨fun u => ?_⟩ | (refine svg (fun hg => ?_) (fun hg => ?_) <;> try (exfalso; first | omega | contradiction)) | (refine svc (fun hc => ?_) (fun hc => ?_) <;> try (exfalso; first | omega | contradiction)) | refine sv2 ?_ | refine svh (fun hb => ?_) (fun hb => ?_) | refine svb (fun b => ?_) | refine sva ?_ | refine sv3 ?_))
    exact fin_r (h' := h) ⟨.inl ⟨rfl, fun q => absurd q (by decide)⟩, rfl⟩
theorem region_c (r : Int) (l : List PT) (h : Heap) (hl : checkF r l = 0 → l.length ≤ 14) : ACalls Try.prog 19 [.val (.int .i64 (r)), .ro 2 (l.map PT.enc)] h (fun v h' => ∃ D, (checkF r l = 0 → PolyD r l D) ∧ (checkF r l ≠ 0 ∨ l.length < 3 → D = []) ∧ v = .tup [regE (ofF D), .val (.int .i64 (checkF r l))] ∧ h' = h) := by
  refine ACalls.wk (region_c0 r l h hl) ?_
  rintro v h' ⟨⟨rfl, q⟩ | ⟨q1, q2, D, hD, rfl⟩, rfl⟩
  · refine ⟨_, ?_, [], fun e => polyD_few (q e), fun _ => rfl, rfl, rfl⟩
    rw [show ofF ([] : List RC) = [] from can_nil]
    unfold regE
    exact (by (repeat (first | exact Wk.refl _ | exact Wk.nilr _ | exact Wk.nilm | apply Wk.aggc | apply Wk.tupc | exact Wk.aggn | exact Wk.tupn)); first | done | fail)
  · rw [q1]
    exact ⟨_, Wk.refl _, D, fun _ => hD, fun e => by omega, rfl, rfl⟩
end Go.Proofs.Ytkeclfcjmdhcfaa
