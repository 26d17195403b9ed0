/- shape: Flip. No condition. -/
import Derived.Test.YtdknjjgmmmmfjaaW2
namespace Go.Proofs.Ytdknjjgmmmmfjaa
open Go Go.VM
attribute [local irreducible] PurV Pur Step RL W D ACalls Then InBlock Fini
set_option linter.unusedVariables false
set_option linter.unusedSimpArgs false
set_option maxHeartbeats 20000000
def flX (w : Int) (r : RC) : RC := ⟨w - r.x - r.w, r.y, r.w, r.h⟩
def flY (g : Int) (r : RC) : RC := ⟨r.x, g - r.y - r.h, r.w, r.h⟩
def plR (w g : Int) : RC := ⟨0, 0, w, g⟩
def clipF (w g : Int) (A : List RC) : List RC := joinJ (fun p q => p && q) A (ofF [plR w g])
def flipF (w g : Int) (across : Bool) (A : List RC) : List RC := ofF ((clipF w g A).map (if across then flX w else flY g))
set_option maxRecDepth 100000 in
theorem flip_none (A : List RC) (w g : Int) (ac : Bool) (h : Heap) (hn : w < 1 ∨ 1048576 < w ∨ g < 1 ∨ 1048576 < g) : ACalls Try.prog 30 [regE A, .val (.int .i64 w), .val (.int .i64 g), .val (.bool ac)] h (fun r h' => r = regE [] ∧ h' = h) := by
  refine ACalls.wk (Q := fun v h' => v = .agg [.val (.slice none 0 0)] ∧ h' = h) ?_ ?_
  · unfold regE
    have t : ¬ (w < 1) ∨ w < 1 := by omega
    have t2 : ¬ (1048576 < w) ∨ 1048576 < w := by omega
    have t3 : ¬ (g < 1) ∨ g < 1 := by omega
    rcases t with t | t
    · rcases t2 with t2 | t2
      · rcases t3 with t3 | t3
        · have t4 : 1048576 < g := by omega
          refine ACalls.intro Try.func30 rfl Try.ntmps30 Try.results30 (Nat.le_of_ble_eq_true rfl) ?_
          (repeat' (first | (refine iS ?_; refine iMu ?_; refine S.mapU ?_) | refine svz ⟨fun b hq => ?_⟩ | refine sv1 ?_ | refine svs ⟨?_⟩ | refine svu ⟨fun u => ?_⟩ | (refine svg (fun hg => ?_) (fun hg => ?_) <;> try (exfalso; first | omega | contradiction)) | (refine svc (fun hc => ?_) (fun hc => ?_) <;> try (exfalso; first | omega | contradiction)) | refine sv2 ?_ | refine svh (fun hb => ?_) (fun hb => ?_) | refine svb (fun b => ?_) | refine sva ?_ | refine sv3 ?_))
          exact fin_r (h' := h) ⟨rfl, rfl⟩
        · refine ACalls.intro Try.func30 rfl Try.ntmps30 Try.results30 (Nat.le_of_ble_eq_true rfl) ?_
          (repeat' (first | (refine iS ?_; refine iMu ?_; refine S.mapU ?_) | refine svz ⟨fun b hq => ?_⟩ | refine sv1 ?_ | refine svs ⟨?_⟩ | refine svu ⟨fun u => ?_⟩ | (refine svg (fun hg => ?_) (fun hg => ?_) <;> try (exfalso; first | omega | contradiction)) | (refine svc (fun hc => ?_) (fun hc => ?_) <;> try (exfalso; first | omega | contradiction)) | refine sv2 ?_ | refine svh (fun hb => ?_) (fun hb => ?_) | refine svb (fun b => ?_) | refine sva ?_ | refine sv3 ?_))
          exact fin_r (h' := h) ⟨rfl, rfl⟩
      · refine ACalls.intro Try.func30 rfl Try.ntmps30 Try.results30 (Nat.le_of_ble_eq_true rfl) ?_
        (repeat' (first | (refine iS ?_; refine iMu ?_; refine S.mapU ?_) | refine svz ⟨fun b hq => ?_⟩ | refine sv1 ?_ | refine svs ⟨?_⟩ | refine svu ⟨fun u => ?_⟩ | (refine svg (fun hg => ?_) (fun hg => ?_) <;> try (exfalso; first | omega | contradiction)) | (refine svc (fun hc => ?_) (fun hc => ?_) <;> try (exfalso; first | omega | contradiction)) | refine sv2 ?_ | refine svh (fun hb => ?_) (fun hb => ?_) | refine svb (fun b => ?_) | refine sva ?_ | refine sv3 ?_))
        exact fin_r (h' := h) ⟨rfl, rfl⟩
    · refine ACalls.intro Try.func30 rfl Try.ntmps30 Try.results30 (Nat.le_of_ble_eq_true rfl) ?_
      (repeat' (first | (refine iS ?_; refine iMu ?_; refine S.mapU ?_) | refine svz ⟨fun b hq => ?_⟩ | refine sv1 ?_ | refine svs ⟨?_⟩ | refine svu ⟨fun u => ?_⟩ | (refine svg (fun hg => ?_) (fun hg => ?_) <;> try (exfalso; first | omega | contradiction)) | (refine svc (fun hc => ?_) (fun hc => ?_) <;> try (exfalso; first | omega | contradiction)) | refine sv2 ?_ | refine svh (fun hb => ?_) (fun hb => ?_) | refine svb (fun b => ?_) | refine sva ?_ | refine sv3 ?_))
      exact fin_r (h' := h) ⟨rfl, rfl⟩
  · rintro v h' ⟨rfl, rfl⟩
    unfold regE
    exact ⟨_, (by (repeat (first | exact Wk.refl _ | exact Wk.nilr _ | exact Wk.nilm | apply Wk.aggc | apply Wk.tupc | exact Wk.aggn | exact Wk.tupn)); first | done | fail), rfl, rfl⟩
theorem plR_ok {w g : Int} (hw : 1 ≤ w ∧ w ≤ 1048576) (hg : 1 ≤ g ∧ g ≤ 1048576) : (plR w g).ok := by
  constructor <;> (unfold I64 plR; dsimp only; omega)
set_option maxRecDepth 100000 in
theorem flip_c (A : List RC) (w g : Int) (ac : Bool) (h : Heap) (hw : 1 ≤ w ∧ w ≤ 1048576) (hg : 1 ≤ g ∧ g ≤ 1048576) (ok : JOk A (ofF [plR w g])) (hl : (clipF w g A).length ≤ 10000) : ACalls Try.prog 30 [regE A, .val (.int .i64 w), .val (.int .i64 g), .val (.bool ac)] h (fun r h' => r = regE (flipF w g ac A) ∧ h' = h) := by
  have h1 : ∀ h, ACalls Try.prog 57 [regE A, .agg [.val (.int .i64 0), .val (.int .i64 0), .val (.int .i64 w), .val (.int .i64 g)]] h (fun r h' => r = regE (clipF w g A) ∧ h' = h) := fun h => within_c A (plR w g) h (plR_ok hw hg) ok
  have hC : Can (clipF w g A) := can_join _ _ _
  unfold flipF
  generalize clipF w g A = C at *
  clear ok
  have cC := hC.cnt
  have ro := rects_o C
  have h5 : ∀ h, _ := fun h => of_c (C.map (if ac then flX w else flY g)) h (by rw [List.length_map]; omega) (fun r hr => by
    obtain ⟨q, hq, rfl⟩ := List.mem_map.1 hr
    obtain ⟨⟨a1, a2, a3⟩, a4, a5, a6⟩ := cC q hq
    cases ac <;> (constructor <;> (unfold I64; simp only [flX, flY, if_true, if_false, Bool.false_eq_true]; omega)))
  unfold regE at *
  refine ACalls.intro Try.func30 rfl Try.ntmps30 Try.results30 (Nat.le_of_ble_eq_true rfl) ?_
  (repeat' (first | (refine iS ?_; refine iMu ?_; refine S.mapU ?_) | refine svz ⟨fun b hq => ?_⟩ | refine sv1 ?_ | refine svs ⟨?_⟩ | refine svu ⟨fun u => ?_⟩ | (refine svg (fun hg => ?_) (fun hg => ?_) <;> try (exfalso; first | omega | contradiction)) | (refine svc (fun hc => ?_) (fun hc => ?_) <;> try (exfalso; first | omega | contradiction)) | refine sv2 ?_ | refine svh (fun hb => ?_) (fun hb => ?_) | refine svb (fun b => ?_) | refine sva ?_ | refine sv3 ?_))
  revert b; intro b8
  refine S.call ?_; refine (h1 _).mono ?_; rintro r h' ⟨rfl, hh⟩; subst hh
  (repeat' (first | (refine iS ?_; refine iMu ?_; refine S.mapU ?_) | refine svz ⟨fun b hq => ?_⟩ | refine sv1 ?_ | refine svs ⟨?_⟩ | refine svu ⟨fun u => ?_⟩ | (refine svg (fun hg => ?_) (fun hg => ?_) <;> try (exfalso; first | omega | contradiction)) | (refine svc (fun hc => ?_) (fun hc => ?_) <;> try (exfalso; first | omega | contradiction)) | refine sv2 ?_ | refine svh (fun hb => ?_) (fun hb => ?_) | refine svb (fun b => ?_) | refine sva ?_ | refine sv3 ?_))
  refine S.call ?_
  refine (ro _ (by omega)).mono ?_
  rintro r h' ⟨v, rfl, hh⟩; subst hh
  (repeat' (first | (refine iS ?_; refine iMu ?_; refine S.mapU ?_) | refine svz ⟨fun b hq => ?_⟩ | refine sv1 ?_ | refine svs ⟨?_⟩ | refine svu ⟨fun u => ?_⟩ | (refine svg (fun hg => ?_) (fun hg => ?_) <;> try (exfalso; first | omega | contradiction)) | (refine svc (fun hc => ?_) (fun hc => ?_) <;> try (exfalso; first | omega | contradiction)) | refine sv2 ?_ | refine svh (fun hb => ?_) (fun hb => ?_) | refine svb (fun b => ?_) | refine sva ?_ | refine sv3 ?_))
  refine W.loop (J := fun q : Nat × List RC => ⟨66, [(35, .val (.int .i64 (q.1 : Int))), (34, .val (.int .i64 (C.length : Int))), (33, .val v), (9, .val v), (8, .val (.pointer (some ⟨b8, 0, none⟩))), (3, .val (.bool ac)), (2, .val (.int .i64 g)), (1, .val (.int .i64 w))], .own v 4 (q.2.map RC.enc) 43 :: .box b8 [.val (.slice none 0 0)] 29 :: h⟩)
    (Φ := fun q => q.1 ≤ C.length ∧ q.2 = (C.take q.1).map (if ac then flX w else flY g) ++ C.drop q.1) (μ := fun q => C.length - q.1) (0, C) ⟨rfl, (by repeat (first | exact LeT.nil | refine LeT.cons rfl ?_ | refine LeT.consw rfl (by (repeat (first | exact Wk.refl _ | exact Wk.nilr _ | exact Wk.nilm | apply Wk.aggc | apply Wk.tupc | exact Wk.aggn | exact Wk.tupn)); first | done | fail) ?_)), (by repeat (first | exact LeH.refl _ | exact LeH.nil _ | refine LeH.cons (by (fail_if_success (apply tkG)); (repeat (first | exact Tk.here | apply Tk.there)); first | done | fail) ?_ | refine LeH.boxw (by (fail_if_success (apply tkG)); (repeat (first | exact Tk.here | apply Tk.there)); first | done | fail) (by (repeat (first | exact Wk.refl _ | exact Wk.nilr _ | exact Wk.nilm | apply Wk.aggc | apply Wk.tupc | exact Wk.aggn | exact Wk.tupn)); first | done | fail) ?_ | refine LeH.skip ?_))⟩ ⟨Nat.zero_le _, rfl⟩ ?_
  rintro ⟨i, M⟩ ⟨hi, hM⟩
  dsimp only at hi hM ⊢
  have hMl := map_len hi hM
  rcases Nat.lt_or_ge i C.length with hlt | hge
  · obtain ⟨r, hr⟩ : ∃ r, C[i]? = some r := ⟨_, List.getElem?_eq_getElem hlt⟩
    obtain ⟨hMx, hMs⟩ := map_step hr hM
    obtain ⟨⟨a1, a2, a3⟩, a4, a5, a6⟩ := cC r (List.mem_of_getElem? hr)
    have hMx' : (M.map RC.enc)[i]? = some (.agg [.val (.int .i64 r.x), .val (.int .i64 r.y), .val (.int .i64 r.w), .val (.int .i64 r.h)]) := by rw [List.getElem?_map, hMx]; rfl
    clear hM h5
    cases ac
    · have e2 : M.set i (flY g r) = (C.take (i + 1)).map (flY g) ++ C.drop (i + 1) := hMs
      (repeat' (first | (refine iS ?_; refine iMu ?_; refine S.mapU ?_) | refine svz ⟨fun b hq => ?_⟩ | refine sv1 ?_ | refine svs ⟨?_⟩ | refine svu ⟨fun u => ?_⟩ | (refine svg (fun hg => ?_) (fun hg => ?_) <;> try (exfalso; first | omega | contradiction)) | (refine svc (fun hc => ?_) (fun hc => ?_) <;> try (exfalso; first | omega | contradiction)) | refine sv2 ?_ | refine svh (fun hb => ?_) (fun hb => ?_) | refine svb (fun b => ?_) | refine sva ?_ | refine sv3 ?_))
      refine ⟨(i + 1, M.set i (flY g r)), ⟨hlt, hMs⟩, ?_, by dsimp only; omega⟩
      dsimp only; rw [List.map_set]; exact ⟨rfl, (by repeat (first | exact LeT.nil | refine LeT.cons rfl ?_ | refine LeT.consw rfl (by (repeat (first | exact Wk.refl _ | exact Wk.nilr _ | exact Wk.nilm | apply Wk.aggc | apply Wk.tupc | exact Wk.aggn | exact Wk.tupn)); first | done | fail) ?_)), (by repeat (first | exact LeH.refl _ | exact LeH.nil _ | refine LeH.cons (by (fail_if_success (apply tkG)); (repeat (first | exact Tk.here | apply Tk.there)); first | done | fail) ?_ | refine LeH.boxw (by (fail_if_success (apply tkG)); (repeat (first | exact Tk.here | apply Tk.there)); first | done | fail) (by (repeat (first | exact Wk.refl _ | exact Wk.nilr _ | exact Wk.nilm | apply Wk.aggc | apply Wk.tupc | exact Wk.aggn | exact Wk.tupn)); first | done | fail) ?_ | refine LeH.skip ?_))⟩
    · (repeat' (first | (refine iS ?_; refine iMu ?_; refine S.mapU ?_) | refine svz ⟨fun b hq => ?_⟩ | refine sv1 ?_ | refine svs ⟨?_⟩ | refine svu ⟨fun u => ?_⟩ | (refine svg (fun hg => ?_) (fun hg => ?_) <;> try (exfalso; first | omega | contradiction)) | (refine svc (fun hc => ?_) (fun hc => ?_) <;> try (exfalso; first | omega | contradiction)) | refine sv2 ?_ | refine svh (fun hb => ?_) (fun hb => ?_) | refine svb (fun b => ?_) | refine sva ?_ | refine sv3 ?_))
      refine ⟨(i + 1, M.set i (flX w r)), ⟨hlt, hMs⟩, ?_, by dsimp only; omega⟩
      dsimp only; rw [List.map_set]; exact ⟨rfl, (by repeat (first | exact LeT.nil | refine LeT.cons rfl ?_ | refine LeT.consw rfl (by (repeat (first | exact Wk.refl _ | exact Wk.nilr _ | exact Wk.nilm | apply Wk.aggc | apply Wk.tupc | exact Wk.aggn | exact Wk.tupn)); first | done | fail) ?_)), (by repeat (first | exact LeH.refl _ | exact LeH.nil _ | refine LeH.cons (by (fail_if_success (apply tkG)); (repeat (first | exact Tk.here | apply Tk.there)); first | done | fail) ?_ | refine LeH.boxw (by (fail_if_success (apply tkG)); (repeat (first | exact Tk.here | apply Tk.there)); first | done | fail) (by (repeat (first | exact Wk.refl _ | exact Wk.nilr _ | exact Wk.nilm | apply Wk.aggc | apply Wk.tupc | exact Wk.aggn | exact Wk.tupn)); first | done | fail) ?_ | refine LeH.skip ?_))⟩
  · have hM2 := map_all hge hM
    subst hM2
    (repeat' (first | (refine iS ?_; refine iMu ?_; refine S.mapU ?_) | refine svz ⟨fun b hq => ?_⟩ | refine sv1 ?_ | refine svs ⟨?_⟩ | refine svu ⟨fun u => ?_⟩ | (refine svg (fun hg => ?_) (fun hg => ?_) <;> try (exfalso; first | omega | contradiction)) | (refine svc (fun hc => ?_) (fun hc => ?_) <;> try (exfalso; first | omega | contradiction)) | refine sv2 ?_ | refine svh (fun hb => ?_) (fun hb => ?_) | refine svb (fun b => ?_) | refine sva ?_ | refine sv3 ?_))
    refine Step.frz (v := v) (by (fail_if_success (apply tkG)); (repeat (first | exact Tk.here | apply Tk.there)); first | done | fail) (by repeat' (first | apply FrzT.cons | exact FrzT.rest _ | exact Frz.hit | apply Frz.aggc | apply Frz.tupc | exact Frz.aggn | exact Frz.tupn | exact Frz.keep _)) (by repeat' (first | apply FrzH.box | apply FrzH.keep | exact FrzH.rest _ | exact Frz.hit | apply Frz.aggc | apply Frz.tupc | exact Frz.aggn | exact Frz.tupn | exact Frz.keep _)) ?_
    refine S.call ?_; refine (h5 _).mono ?_; rintro r h' ⟨rfl, hh⟩; subst hh
    (repeat' (first | (refine iS ?_; refine iMu ?_; refine S.mapU ?_) | refine svz ⟨fun b hq => ?_⟩ | refine sv1 ?_ | refine svs ⟨?_⟩ | refine svu ⟨fun u => ?_⟩ | (refine svg (fun hg => ?_) (fun hg => ?_) <;> try (exfalso; first | omega | contradiction)) | (refine svc (fun hc => ?_) (fun hc => ?_) <;> try (exfalso; first | omega | contradiction)) | refine sv2 ?_ | refine svh (fun hb => ?_) (fun hb => ?_) | refine svb (fun b => ?_) | refine sva ?_ | refine sv3 ?_))
    exact fin_r (h' := h) ⟨rfl, rfl⟩
end Go.Proofs.Ytdknjjgmmmmfjaa
