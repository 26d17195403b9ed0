import Derived.Test.YtdknjjgmmmmfjaaG10
/- shape: thin, turn, low, wider. No condition. -/
namespace Go.Proofs.Ytdknjjgmmmmfjaa
open Go Go.VM
attribute [local irreducible] PurV Pur Step RL W D ACalls Then InBlock Fini
set_option linter.unusedVariables false
set_option linter.unusedSimpArgs false
set_option maxHeartbeats 20000000
def thR (n : Int) (r : RC) : RC := ⟨r.x + n, r.y, r.w - 2 * n, r.h⟩
def tuR (r : RC) : RC := ⟨r.y, r.x, r.h, r.w⟩
def wiR (n : Int) (r : RC) : RC := ⟨r.x - n, r.y - n, r.w + 2 * n, r.h + 2 * n⟩
theorem map_step {f : RC → RC} {A M : List RC} {i : Nat} {r : RC} (hr : A[i]? = some r) (hM : M = (A.take i).map f ++ A.drop i) : M[i]? = some r ∧ M.set i (f r) = (A.take (i + 1)).map f ++ A.drop (i + 1) := by
  have hlt := (List.getElem?_eq_some_iff.1 hr).1
  have htl : ((A.take i).map f).length = i := by rw [List.length_map, List.length_take]; omega
  rw [hM]
  constructor
  · rw [List.getElem?_append_right (by omega), htl, Nat.sub_self, List.getElem?_drop]; exact hr
  · rw [List.set_append_right _ _ (by omega), htl, Nat.sub_self, drop_at hr, List.take_add_one, hr]
    simp
theorem map_len {f : RC → RC} {A M : List RC} {i : Nat} (hi : i ≤ A.length) (hM : M = (A.take i).map f ++ A.drop i) : M.length = A.length := by
  rw [hM, List.length_append, List.length_map, List.length_take, List.length_drop]; omega
theorem map_all {f : RC → RC} {A M : List RC} {i : Nat} (hi : A.length ≤ i) (hM : M = (A.take i).map f ++ A.drop i) : M = A.map f := by
  rw [hM, List.take_of_length_le hi, List.drop_eq_nil_of_le hi, List.append_nil]
set_option maxRecDepth 100000 in
theorem turn_c (A : List RC) (h : Heap) (lA : A.length ≤ 10000) (hA : ∀ r ∈ A, r.cnt) : ACalls Try.prog 59 [regE A] h (fun r h' => r = regE (ofF (A.map tuR)) ∧ h' = h) := by
  have ro := rects_o A
  unfold regE at *
  refine ACalls.intro Try.func59 rfl Try.ntmps59 Try.results59 (Nat.le_of_ble_eq_true rfl) ?_
  (repeat' (first | (refine iS ?_; refine iMu ?_; refine S.mapU ?_) | refine svz ⟨fun b hq => ?_⟩ | refine sv1 ?_ | refine svs ⟨?_⟩ | refine svu ⟨fun u => ?_⟩ | (refine svg (fun hg => ?_) (fun hg => ?_) <;> try (exfalso; first | omega | contradiction)) | (refine svc (fun hc => ?_) (fun hc => ?_) <;> try (exfalso; first | omega | contradiction)) | refine sv2 ?_ | refine svh (fun hb => ?_) (fun hb => ?_) | refine svb (fun b => ?_) | refine sva ?_ | refine sv3 ?_))
  revert b; intro b2
  refine S.call ?_
  refine (ro _ (by omega)).mono ?_
  rintro r h' ⟨v, rfl, hh⟩; subst hh
  (repeat' (first | (refine iS ?_; refine iMu ?_; refine S.mapU ?_) | refine svz ⟨fun b hq => ?_⟩ | refine sv1 ?_ | refine svs ⟨?_⟩ | refine svu ⟨fun u => ?_⟩ | (refine svg (fun hg => ?_) (fun hg => ?_) <;> try (exfalso; first | omega | contradiction)) | (refine svc (fun hc => ?_) (fun hc => ?_) <;> try (exfalso; first | omega | contradiction)) | refine sv2 ?_ | refine svh (fun hb => ?_) (fun hb => ?_) | refine svb (fun b => ?_) | refine sva ?_ | refine sv3 ?_))
  refine W.loop (J := fun q : Nat × List RC => ⟨30, [(10, .val (.int .i64 (q.1 : Int))), (9, .val (.int .i64 (A.length : Int))), (8, .val v), (3, .val v), (2, .val (.pointer (some ⟨b2, 0, none⟩)))], .own v 4 (q.2.map RC.enc) 43 :: .box b2 [.val (.slice none 0 0)] 29 :: h⟩)
    (Φ := fun q => q.1 ≤ A.length ∧ q.2 = (A.take q.1).map tuR ++ A.drop q.1) (μ := fun q => A.length - q.1) (0, A) lee ⟨Nat.zero_le _, rfl⟩ ?_
  rintro ⟨i, M⟩ ⟨hi, hM⟩
  dsimp only at hi hM ⊢
  have hMl := map_len hi hM
  rcases Nat.lt_or_ge i A.length with hlt | hge
  · obtain ⟨r, hr⟩ : ∃ r, A[i]? = some r := ⟨_, List.getElem?_eq_getElem hlt⟩
    obtain ⟨hMx, hMs⟩ := map_step hr hM
    clear hM
    (repeat' (first | (refine iS ?_; refine iMu ?_; refine S.mapU ?_) | refine svz ⟨fun b hq => ?_⟩ | refine sv1 ?_ | refine svs ⟨?_⟩ | refine svu ⟨fun u => ?_⟩ | (refine svg (fun hg => ?_) (fun hg => ?_) <;> try (exfalso; first | omega | contradiction)) | (refine svc (fun hc => ?_) (fun hc => ?_) <;> try (exfalso; first | omega | contradiction)) | refine sv2 ?_ | refine svh (fun hb => ?_) (fun hb => ?_) | refine svb (fun b => ?_) | refine sva ?_ | refine sv3 ?_))
    exact ⟨(i + 1, M.set i (tuR r)), ⟨hlt, hMs⟩, by dsimp only; rw [List.map_set]; exact lee, by dsimp only; omega⟩
  · have hM2 := map_all hge hM
    subst hM2
    (repeat' (first | (refine iS ?_; refine iMu ?_; refine S.mapU ?_) | refine svz ⟨fun b hq => ?_⟩ | refine sv1 ?_ | refine svs ⟨?_⟩ | refine svu ⟨fun u => ?_⟩ | (refine svg (fun hg => ?_) (fun hg => ?_) <;> try (exfalso; first | omega | contradiction)) | (refine svc (fun hc => ?_) (fun hc => ?_) <;> try (exfalso; first | omega | contradiction)) | refine sv2 ?_ | refine svh (fun hb => ?_) (fun hb => ?_) | refine svb (fun b => ?_) | refine sva ?_ | refine sv3 ?_))
    refine Step.frz (v := v) (by (fail_if_success (apply tkG)); (repeat (first | exact Tk.here | apply Tk.there)); first | done | fail) (by repeat' (first | apply FrzT.cons | exact FrzT.rest _ | exact Frz.hit | apply Frz.aggc | apply Frz.tupc | exact Frz.aggn | exact Frz.tupn | exact Frz.keep _)) (by repeat' (first | apply FrzH.box | apply FrzH.keep | exact FrzH.rest _ | exact Frz.hit | apply Frz.aggc | apply Frz.tupc | exact Frz.aggn | exact Frz.tupn | exact Frz.keep _)) ?_
    refine S.call ?_; refine (of_c (A.map tuR) _ (by rw [List.length_map]; omega) (fun r hr => by
      obtain ⟨q, hq, rfl⟩ := List.mem_map.1 hr
      obtain ⟨⟨c1, c2, c3⟩, c4, c5, c6⟩ := hA q hq
      constructor <;> (unfold I64 tuR; dsimp only; omega))).mono ?_; rintro r h' ⟨rfl, hh⟩; subst hh
    (repeat' (first | (refine iS ?_; refine iMu ?_; refine S.mapU ?_) | refine svz ⟨fun b hq => ?_⟩ | refine sv1 ?_ | refine svs ⟨?_⟩ | refine svu ⟨fun u => ?_⟩ | (refine svg (fun hg => ?_) (fun hg => ?_) <;> try (exfalso; first | omega | contradiction)) | (refine svc (fun hc => ?_) (fun hc => ?_) <;> try (exfalso; first | omega | contradiction)) | refine sv2 ?_ | refine svh (fun hb => ?_) (fun hb => ?_) | refine svb (fun b => ?_) | refine sva ?_ | refine sv3 ?_))
    exact fin_r (h' := h) ⟨rfl, rfl⟩
set_option maxRecDepth 100000 in
theorem thin_c (A : List RC) (n : Int) (h : Heap) (lA : A.length ≤ 10000) (hA : ∀ r ∈ A, r.cnt) (hn : 0 ≤ n ∧ n ≤ 1000) : ACalls Try.prog 33 [regE A, .val (.int .i64 n)] h (fun r h' => r = regE (ofF (A.map (thR n))) ∧ h' = h) := by
  have ro := rects_o A
  unfold regE at *
  refine ACalls.intro Try.func33 rfl Try.ntmps33 Try.results33 (Nat.le_of_ble_eq_true rfl) ?_
  (repeat' (first | (refine iS ?_; refine iMu ?_; refine S.mapU ?_) | refine svz ⟨fun b hq => ?_⟩ | refine sv1 ?_ | refine svs ⟨?_⟩ | refine svu ⟨fun u => ?_⟩ | (refine svg (fun hg => ?_) (fun hg => ?_) <;> try (exfalso; first | omega | contradiction)) | (refine svc (fun hc => ?_) (fun hc => ?_) <;> try (exfalso; first | omega | contradiction)) | refine sv2 ?_ | refine svh (fun hb => ?_) (fun hb => ?_) | refine svb (fun b => ?_) | refine sva ?_ | refine sv3 ?_))
  revert b; intro b4
  refine S.call ?_
  refine (ro _ (by omega)).mono ?_
  rintro r h' ⟨v, rfl, hh⟩; subst hh
  (repeat' (first | (refine iS ?_; refine iMu ?_; refine S.mapU ?_) | refine svz ⟨fun b hq => ?_⟩ | refine sv1 ?_ | refine svs ⟨?_⟩ | refine svu ⟨fun u => ?_⟩ | (refine svg (fun hg => ?_) (fun hg => ?_) <;> try (exfalso; first | omega | contradiction)) | (refine svc (fun hc => ?_) (fun hc => ?_) <;> try (exfalso; first | omega | contradiction)) | refine sv2 ?_ | refine svh (fun hb => ?_) (fun hb => ?_) | refine svb (fun b => ?_) | refine sva ?_ | refine sv3 ?_))
  refine W.loop (J := fun q : Nat × List RC => ⟨36, [(11, .val (.int .i64 (q.1 : Int))), (10, .val (.int .i64 (A.length : Int))), (5, .val v), (4, .val (.pointer (some ⟨b4, 0, none⟩))), (1, .val (.int .i64 n))], .own v 4 (q.2.map RC.enc) 43 :: .box b4 [.val (.slice none 0 0)] 29 :: h⟩)
    (Φ := fun q => q.1 ≤ A.length ∧ q.2 = (A.take q.1).map (thR n) ++ A.drop q.1) (μ := fun q => A.length - q.1) (0, A) lee ⟨Nat.zero_le _, rfl⟩ ?_
  rintro ⟨i, M⟩ ⟨hi, hM⟩
  dsimp only at hi hM ⊢
  have hMl := map_len hi hM
  rcases Nat.lt_or_ge i A.length with hlt | hge
  · obtain ⟨r, hr⟩ : ∃ r, A[i]? = some r := ⟨_, List.getElem?_eq_getElem hlt⟩
    obtain ⟨hMx, hMs⟩ := map_step hr hM
    obtain ⟨⟨c1, c2, c3⟩, c4, c5, c6⟩ := hA r (List.mem_of_getElem? hr)
    clear hM
    (repeat' (first | (refine iS ?_; refine iMu ?_; refine S.mapU ?_) | refine svz ⟨fun b hq => ?_⟩ | refine sv1 ?_ | refine svs ⟨?_⟩ | refine svu ⟨fun u => ?_⟩ | (refine svg (fun hg => ?_) (fun hg => ?_) <;> try (exfalso; first | omega | contradiction)) | (refine svc (fun hc => ?_) (fun hc => ?_) <;> try (exfalso; first | omega | contradiction)) | refine sv2 ?_ | refine svh (fun hb => ?_) (fun hb => ?_) | refine svb (fun b => ?_) | refine sva ?_ | refine sv3 ?_))
    obtain ⟨q, hq⟩ : ∃ q : RC, q = ⟨r.x + n, r.y, r.w, r.h⟩ := ⟨_, rfl⟩
    have e1 : (List.map RC.enc M).set i (.agg [.val (.int .i64 (r.x + n)), .val (.int .i64 r.y), .val (.int .i64 r.w), .val (.int .i64 r.h)]) = (M.set i q).map RC.enc := by rw [List.map_set, hq]; rfl
    have h1 : (M.set i q)[i]? = some q := by rw [List.getElem?_set_self (by omega)]
    have h2 : (M.set i q).length = A.length := by rw [List.length_set, hMl]
    have q3 : q.w = r.w := by rw [hq]
    have q4 : thR n r = ⟨q.x, q.y, q.w - 2 * n, q.h⟩ := by rw [hq]; rfl
    rw [e1]
    have h3 : (M.set i q).set i (thR n r) = M.set i (thR n r) := by rw [List.set_set]
    clear hq e1
    generalize M.set i q = M1 at *
    (repeat' (first | (refine iS ?_; refine iMu ?_; refine S.mapU ?_) | refine svz ⟨fun b hq => ?_⟩ | refine sv1 ?_ | refine svs ⟨?_⟩ | refine svu ⟨fun u => ?_⟩ | (refine svg (fun hg => ?_) (fun hg => ?_) <;> try (exfalso; first | omega | contradiction)) | (refine svc (fun hc => ?_) (fun hc => ?_) <;> try (exfalso; first | omega | contradiction)) | refine sv2 ?_ | refine svh (fun hb => ?_) (fun hb => ?_) | refine svb (fun b => ?_) | refine sva ?_ | refine sv3 ?_))
    rw [show (List.map RC.enc M1).set i (.agg [.val (.int .i64 q.x), .val (.int .i64 q.y), .val (.int .i64 (q.w - 2 * n)), .val (.int .i64 q.h)]) = (M.set i (thR n r)).map RC.enc from by rw [← h3, List.map_set, q4]; rfl]
    exact ⟨(i + 1, M.set i (thR n r)), ⟨hlt, hMs⟩, lee, by dsimp only; omega⟩
  · have hM2 := map_all hge hM
    subst hM2
    (repeat' (first | (refine iS ?_; refine iMu ?_; refine S.mapU ?_) | refine svz ⟨fun b hq => ?_⟩ | refine sv1 ?_ | refine svs ⟨?_⟩ | refine svu ⟨fun u => ?_⟩ | (refine svg (fun hg => ?_) (fun hg => ?_) <;> try (exfalso; first | omega | contradiction)) | (refine svc (fun hc => ?_) (fun hc => ?_) <;> try (exfalso; first | omega | contradiction)) | refine sv2 ?_ | refine svh (fun hb => ?_) (fun hb => ?_) | refine svb (fun b => ?_) | refine sva ?_ | refine sv3 ?_))
    refine Step.frz (v := v) (by (fail_if_success (apply tkG)); (repeat (first | exact Tk.here | apply Tk.there)); first | done | fail) (by repeat' (first | apply FrzT.cons | exact FrzT.rest _ | exact Frz.hit | apply Frz.aggc | apply Frz.tupc | exact Frz.aggn | exact Frz.tupn | exact Frz.keep _)) (by repeat' (first | apply FrzH.box | apply FrzH.keep | exact FrzH.rest _ | exact Frz.hit | apply Frz.aggc | apply Frz.tupc | exact Frz.aggn | exact Frz.tupn | exact Frz.keep _)) ?_
    refine S.call ?_; refine (of_c (A.map (thR n)) _ (by rw [List.length_map]; omega) (fun r hr => by
      obtain ⟨q, hq, rfl⟩ := List.mem_map.1 hr
      obtain ⟨⟨c1, c2, c3⟩, c4, c5, c6⟩ := hA q hq
      constructor <;> (unfold I64 thR; dsimp only; omega))).mono ?_; rintro r h' ⟨rfl, hh⟩; subst hh
    (repeat' (first | (refine iS ?_; refine iMu ?_; refine S.mapU ?_) | refine svz ⟨fun b hq => ?_⟩ | refine sv1 ?_ | refine svs ⟨?_⟩ | refine svu ⟨fun u => ?_⟩ | (refine svg (fun hg => ?_) (fun hg => ?_) <;> try (exfalso; first | omega | contradiction)) | (refine svc (fun hc => ?_) (fun hc => ?_) <;> try (exfalso; first | omega | contradiction)) | refine sv2 ?_ | refine svh (fun hb => ?_) (fun hb => ?_) | refine svb (fun b => ?_) | refine sva ?_ | refine sv3 ?_))
    exact fin_r (h' := h) ⟨rfl, rfl⟩
set_option maxRecDepth 100000 in
theorem wider_c (r : RC) (n : Int) (h : Heap) (hb : (-4000000 ≤ r.x ∧ r.x ≤ 4000000) ∧ (-4000000 ≤ r.y ∧ r.y ≤ 4000000) ∧ (-4000000 ≤ r.w ∧ r.w ≤ 4000000) ∧ -4000000 ≤ r.h ∧ r.h ≤ 4000000) (hn : -1000 ≤ n ∧ n ≤ 1000) : ACalls Try.prog 34 [r.enc, .val (.int .i64 n)] h (fun v h' => v = (wiR n r).enc ∧ h' = h) := by
  show ACalls Try.prog 34 [.agg [.val (.int .i64 r.x), .val (.int .i64 r.y), .val (.int .i64 r.w), .val (.int .i64 r.h)], _] h _
  refine ACalls.intro Try.func34 rfl Try.ntmps34 Try.results34 (Nat.le_of_ble_eq_true rfl) ?_
  (repeat' (first | (refine iS ?_; refine iMu ?_; refine S.mapU ?_) | refine svz ⟨fun b hq => ?_⟩ | refine sv1 ?_ | refine svs ⟨?_⟩ | refine svu ⟨fun u => ?_⟩ | (refine svg (fun hg => ?_) (fun hg => ?_) <;> try (exfalso; first | omega | contradiction)) | (refine svc (fun hc => ?_) (fun hc => ?_) <;> try (exfalso; first | omega | contradiction)) | refine sv2 ?_ | refine svh (fun hb => ?_) (fun hb => ?_) | refine svb (fun b => ?_) | refine sva ?_ | refine sv3 ?_))
  exact fin_r (h' := h) ⟨rfl, rfl⟩
end Go.Proofs.Ytdknjjgmmmmfjaa
/- shape: what thin, turn, low and Grow hold, as sets of places. No condition. -/
namespace Go.Proofs.Ytdknjjgmmmmfjaa
open Go Go.VM
set_option linter.unusedVariables false
set_option linter.unusedSimpArgs false
theorem fol_pair : ∀ {A : List RC}, A.Pairwise fol → ∀ r ∈ A, ∀ s ∈ A, r = s ∨ fol r s ∨ fol s r
  | [], _, r, hr, _, _ => by cases hr
  | a :: A, h, r, hr, s, hs => by
    rw [List.pairwise_cons] at h
    rcases List.mem_cons.1 hr with rfl | hr'
    · rcases List.mem_cons.1 hs with rfl | hs'
      · exact .inl rfl
      · exact .inr (.inl (h.1 s hs'))
    · rcases List.mem_cons.1 hs with rfl | hs'
      · exact .inr (.inr (h.1 r hr'))
      · exact fol_pair h.2 r hr' s hs'
/-- What lies in a row without a gap lies in one rectangle. -/
theorem one_rect {A : List RC} (hA : Can A) {x y : Int} : ∀ {m : Nat}, (∀ k : Nat, k ≤ m → hasR A (x + k) y = true) → ∃ r ∈ A, r.has x y ∧ r.has (x + m) y
  | 0, h => by
    obtain ⟨r, hr, h1⟩ := hasR_iff.1 (h 0 (Nat.le_refl _))
    refine ⟨r, hr, ?_, h1⟩
    simpa using h1
  | m + 1, h => by
    obtain ⟨r, hr, h1, h2⟩ := one_rect hA (m := m) fun k hk => h k (by omega)
    obtain ⟨s, hs, h3⟩ := hasR_iff.1 (h (m + 1) (Nat.le_refl _))
    refine ⟨r, hr, h1, ?_⟩
    have e := fol_pair hA.fol r hr s hs
    have c := hA.cnt r hr
    have d := hA.cnt s hs
    rcases e with rfl | e | e
    · exact h3
    all_goals
      unfold RC.has at *
      unfold fol at e
      unfold RC.cnt fitP at c d
      push_cast at *
      omega
def thinF (n : Int) (A : List RC) : List RC := ofF (A.map (thR n))
def turnF (A : List RC) : List RC := ofF (A.map tuR)
def lowF (n : Int) (A : List RC) : List RC := turnF (thinF n (turnF A))
def growF (n : Int) (A : List RC) : List RC := ofF (A.map (wiR n))
theorem can_thin (n : Int) (A : List RC) : Can (thinF n A) := can_of _
theorem can_turn (A : List RC) : Can (turnF A) := can_of _
theorem has_turn {A : List RC} (hA : Can A) (x y : Int) : hasR (turnF A) x y = hasR A y x := by
  unfold turnF
  rw [has_ofF, Bool.eq_iff_iff, hasF_iff, hasR_iff]
  constructor
  · rintro ⟨q, hq, _, h⟩
    obtain ⟨r, hr, rfl⟩ := List.mem_map.1 hq
    exact ⟨r, hr, by unfold RC.has tuR at *; dsimp only at h; omega⟩
  · rintro ⟨r, hr, h⟩
    exact ⟨tuR r, List.mem_map.2 ⟨r, hr, rfl⟩, ⟨(hA.cnt r hr).2, (hA.cnt r hr).1⟩, by unfold RC.has tuR at *; dsimp only; omega⟩
theorem has_thin {A : List RC} (hA : Can A) (n : Nat) (x y : Int) : hasR (thinF n A) x y = true ↔ ∀ k : Int, -n ≤ k → k ≤ n → hasR A (x + k) y = true := by
  unfold thinF
  rw [has_ofF, hasF_iff]
  constructor
  · rintro ⟨q, hq, _, h⟩ k h1 h2
    obtain ⟨r, hr, rfl⟩ := List.mem_map.1 hq
    exact hasR_iff.2 ⟨r, hr, by unfold RC.has thR at *; dsimp only at h; omega⟩
  · intro h
    obtain ⟨r, hr, h1, h2⟩ := one_rect hA (x := x - n) (y := y) (m := 2 * n) fun k hk => by
      have := h (k - n) (by omega) (by omega)
      rw [show x - (n : Int) + k = x + (k - n) by omega]; exact this
    have c := hA.cnt r hr
    refine ⟨thR n r, List.mem_map.2 ⟨r, hr, rfl⟩, ?_, ?_⟩
    · unfold RC.cnt fitP thR at *; unfold RC.has at *; dsimp only; push_cast at *; omega
    · unfold RC.has thR at *; dsimp only; push_cast at *; omega
theorem Bx.thin {K : Int} {m : Nat} {A : List RC} (h : Bx K m A) (n : Nat) : Bx K m (thinF n A) := .of_has (can_thin _ _) fun x y e => by
  have := (has_thin h.can n x y).1 e 0 (by omega) (by omega)
  rw [Int.add_zero] at this
  exact h.has this
theorem Bx.turn {K : Int} {m : Nat} {A : List RC} (h : Bx K m A) : Bx K m (turnF A) := .of_has (can_turn _) fun x y e => by
  rw [has_turn h.can] at e
  have := h.has e
  omega
theorem Bx.low {K : Int} {m : Nat} {A : List RC} (h : Bx K m A) (n : Nat) : Bx K m (lowF n A) := (h.turn.thin n).turn
end Go.Proofs.Ytdknjjgmmmmfjaa
/- shape: low, Edge, Grow. No condition. -/
namespace Go.Proofs.Ytdknjjgmmmmfjaa
open Go Go.VM
attribute [local irreducible] PurV Pur Step RL W D ACalls Then InBlock Fini
set_option linter.unusedVariables false
set_option linter.unusedSimpArgs false
set_option maxHeartbeats 20000000
set_option maxRecDepth 100000 in
theorem low_c (A : List RC) (n : Int) (h : Heap) (hA : Can A) (lA : A.length ≤ 10000) (l1 : (turnF A).length ≤ 10000) (l2 : (thinF n (turnF A)).length ≤ 10000) (hn : 0 ≤ n ∧ n ≤ 1000) : ACalls Try.prog 32 [regE A, .val (.int .i64 n)] h (fun r h' => r = regE (lowF n A) ∧ h' = h) := by
  have h1 : ∀ h, ACalls Try.prog 59 [regE A] h (fun r h' => r = regE (turnF A) ∧ h' = h) := fun h => turn_c A h lA hA.cnt
  have h2 : ∀ h, ACalls Try.prog 33 [regE (turnF A), .val (.int .i64 n)] h (fun r h' => r = regE (thinF n (turnF A)) ∧ h' = h) := fun h => thin_c _ n h l1 (can_turn A).cnt hn
  have h3 : ∀ h, ACalls Try.prog 59 [regE (thinF n (turnF A))] h (fun r h' => r = regE (lowF n A) ∧ h' = h) := fun h => turn_c _ h l2 (can_thin _ _).cnt
  generalize lowF n A = D at *
  generalize thinF n (turnF A) = C at *
  generalize turnF A = B at *
  unfold regE at *
  refine ACalls.intro Try.func32 rfl Try.ntmps32 Try.results32 (Nat.le_of_ble_eq_true rfl) ?_
  (repeat' (first | (refine iS ?_; refine iMu ?_; refine S.mapU ?_) | refine svz ⟨fun b hq => ?_⟩ | refine sv1 ?_ | refine svs ⟨?_⟩ | refine svu ⟨fun u => ?_⟩ | (refine svg (fun hg => ?_) (fun hg => ?_) <;> try (exfalso; first | omega | contradiction)) | (refine svc (fun hc => ?_) (fun hc => ?_) <;> try (exfalso; first | omega | contradiction)) | refine sv2 ?_ | refine svh (fun hb => ?_) (fun hb => ?_) | refine svb (fun b => ?_) | refine sva ?_ | refine sv3 ?_))
  refine S.call ?_; refine (h1 _).mono ?_; rintro r h' ⟨rfl, hh⟩; subst hh
  (repeat' (first | (refine iS ?_; refine iMu ?_; refine S.mapU ?_) | refine svz ⟨fun b hq => ?_⟩ | refine sv1 ?_ | refine svs ⟨?_⟩ | refine svu ⟨fun u => ?_⟩ | (refine svg (fun hg => ?_) (fun hg => ?_) <;> try (exfalso; first | omega | contradiction)) | (refine svc (fun hc => ?_) (fun hc => ?_) <;> try (exfalso; first | omega | contradiction)) | refine sv2 ?_ | refine svh (fun hb => ?_) (fun hb => ?_) | refine svb (fun b => ?_) | refine sva ?_ | refine sv3 ?_))
  refine S.call ?_; refine (h2 _).mono ?_; rintro r h' ⟨rfl, hh⟩; subst hh
  (repeat' (first | (refine iS ?_; refine iMu ?_; refine S.mapU ?_) | refine svz ⟨fun b hq => ?_⟩ | refine sv1 ?_ | refine svs ⟨?_⟩ | refine svu ⟨fun u => ?_⟩ | (refine svg (fun hg => ?_) (fun hg => ?_) <;> try (exfalso; first | omega | contradiction)) | (refine svc (fun hc => ?_) (fun hc => ?_) <;> try (exfalso; first | omega | contradiction)) | refine sv2 ?_ | refine svh (fun hb => ?_) (fun hb => ?_) | refine svb (fun b => ?_) | refine sva ?_ | refine sv3 ?_))
  refine S.call ?_; refine (h3 _).mono ?_; rintro r h' ⟨rfl, hh⟩; subst hh
  (repeat' (first | (refine iS ?_; refine iMu ?_; refine S.mapU ?_) | refine svz ⟨fun b hq => ?_⟩ | refine sv1 ?_ | refine svs ⟨?_⟩ | refine svu ⟨fun u => ?_⟩ | (refine svg (fun hg => ?_) (fun hg => ?_) <;> try (exfalso; first | omega | contradiction)) | (refine svc (fun hc => ?_) (fun hc => ?_) <;> try (exfalso; first | omega | contradiction)) | refine sv2 ?_ | refine svh (fun hb => ?_) (fun hb => ?_) | refine svb (fun b => ?_) | refine sva ?_ | refine sv3 ?_))
  exact fin_r (h' := h) ⟨rfl, rfl⟩
def edgeF (A : List RC) : List RC := joinJ (fun p q => p && !q) A (joinJ (fun p q => p && q) (thinF 1 A) (lowF 1 A))
set_option maxRecDepth 100000 in
theorem edge_c {K : Int} {m : Nat} (A : List RC) (h : Heap) (hA : Bx K m A) (hm : m ≤ 100) : ACalls Try.prog 17 [regE A] h (fun r h' => r = regE (edgeF A) ∧ h' = h) := by
  have len : ∀ {B : List RC}, Bx K m B → B.length ≤ 10000 := fun b => Nat.le_trans b.len (Nat.mul_le_mul hm hm)
  have bT := hA.thin 1
  have bL := hA.low 1
  have h1 : ∀ h, ACalls Try.prog 33 [regE A, .val (.int .i64 1)] h (fun r h' => r = regE (thinF 1 A) ∧ h' = h) := fun h => thin_c A 1 h (len hA) hA.can.cnt (by omega)
  have h2 : ∀ h, ACalls Try.prog 32 [regE A, .val (.int .i64 1)] h (fun r h' => r = regE (lowF 1 A) ∧ h' = h) := fun h => low_c A 1 h hA.can (len hA) (len hA.turn) (len (hA.turn.thin 1)) (by omega)
  have h3 := fun h => meet_c (thinF 1 A) (lowF 1 A) h (bT.jok bL hm)
  have h4 : ∀ h, _ := fun h => minus_c A (joinJ (fun p q => p && q) (thinF 1 A) (lowF 1 A)) h (hA.jok (Bx.join rfl bT bL) hm)
  unfold edgeF
  generalize joinJ (fun p q => p && !q) A (joinJ (fun p q => p && q) (thinF 1 A) (lowF 1 A)) = E at *
  generalize joinJ (fun p q => p && q) (thinF 1 A) (lowF 1 A) = M at *
  generalize thinF 1 A = T at *
  generalize lowF 1 A = L at *
  unfold regE at *
  refine ACalls.intro Try.func17 rfl Try.ntmps17 Try.results17 (Nat.le_of_ble_eq_true rfl) ?_
  (repeat' (first | (refine iS ?_; refine iMu ?_; refine S.mapU ?_) | refine svz ⟨fun b hq => ?_⟩ | refine sv1 ?_ | refine svs ⟨?_⟩ | refine svu ⟨fun u => ?_⟩ | (refine svg (fun hg => ?_) (fun hg => ?_) <;> try (exfalso; first | omega | contradiction)) | (refine svc (fun hc => ?_) (fun hc => ?_) <;> try (exfalso; first | omega | contradiction)) | refine sv2 ?_ | refine svh (fun hb => ?_) (fun hb => ?_) | refine svb (fun b => ?_) | refine sva ?_ | refine sv3 ?_))
  refine R2.C (h1 _) ?_
  (repeat' (first | (refine iS ?_; refine iMu ?_; refine S.mapU ?_) | refine svz ⟨fun b hq => ?_⟩ | refine sv1 ?_ | refine svs ⟨?_⟩ | refine svu ⟨fun u => ?_⟩ | (refine svg (fun hg => ?_) (fun hg => ?_) <;> try (exfalso; first | omega | contradiction)) | (refine svc (fun hc => ?_) (fun hc => ?_) <;> try (exfalso; first | omega | contradiction)) | refine sv2 ?_ | refine svh (fun hb => ?_) (fun hb => ?_) | refine svb (fun b => ?_) | refine sva ?_ | refine sv3 ?_))
  refine R2.C (h2 _) ?_
  (repeat' (first | (refine iS ?_; refine iMu ?_; refine S.mapU ?_) | refine svz ⟨fun b hq => ?_⟩ | refine sv1 ?_ | refine svs ⟨?_⟩ | refine svu ⟨fun u => ?_⟩ | (refine svg (fun hg => ?_) (fun hg => ?_) <;> try (exfalso; first | omega | contradiction)) | (refine svc (fun hc => ?_) (fun hc => ?_) <;> try (exfalso; first | omega | contradiction)) | refine sv2 ?_ | refine svh (fun hb => ?_) (fun hb => ?_) | refine svb (fun b => ?_) | refine sva ?_ | refine sv3 ?_))
  refine R2.C (h3 _) ?_
  (repeat' (first | (refine iS ?_; refine iMu ?_; refine S.mapU ?_) | refine svz ⟨fun b hq => ?_⟩ | refine sv1 ?_ | refine svs ⟨?_⟩ | refine svu ⟨fun u => ?_⟩ | (refine svg (fun hg => ?_) (fun hg => ?_) <;> try (exfalso; first | omega | contradiction)) | (refine svc (fun hc => ?_) (fun hc => ?_) <;> try (exfalso; first | omega | contradiction)) | refine sv2 ?_ | refine svh (fun hb => ?_) (fun hb => ?_) | refine svb (fun b => ?_) | refine sva ?_ | refine sv3 ?_))
  refine R2.C (h4 _) ?_
  (repeat' (first | (refine iS ?_; refine iMu ?_; refine S.mapU ?_) | refine svz ⟨fun b hq => ?_⟩ | refine sv1 ?_ | refine svs ⟨?_⟩ | refine svu ⟨fun u => ?_⟩ | (refine svg (fun hg => ?_) (fun hg => ?_) <;> try (exfalso; first | omega | contradiction)) | (refine svc (fun hc => ?_) (fun hc => ?_) <;> try (exfalso; first | omega | contradiction)) | refine sv2 ?_ | refine svh (fun hb => ?_) (fun hb => ?_) | refine svb (fun b => ?_) | refine sva ?_ | refine sv3 ?_))
  exact fin_r (h' := h) ⟨rfl, rfl⟩
theorem of_not {r : RC} (h : ¬ r.cnt) : ofF [r] = [] := (can_of [r]).nil_iff.2 fun x y => by rw [has_ofF]; simp [hasF, h]
theorem of_cnt {r : RC} (h : r.cnt) : ofF [r] = [r] := by
  obtain ⟨⟨_, h1, _⟩, _, h2, _⟩ := id h
  have hB : CanB [⟨r.y, r.h, [(r.x, r.x + r.w)]⟩] := ⟨h2, by simp, ⟨by simp; omega, by simp⟩⟩
  rw [ofF_flat hB]
  · show [(⟨r.x, r.y, r.x + r.w - r.x, r.h⟩ : RC)] = [r]
    rw [show r.x + r.w - r.x = r.w by omega]
  · intro x y
    rw [hasF_iff]
    simp only [List.mem_singleton, exists_eq_left, inB, inS]
    unfold RC.has
    constructor
    · rintro ⟨_, h3, h4, h5, h6⟩; exact ⟨h5, h6, h3, h4⟩
    · rintro ⟨h5, h6, h3, h4⟩; exact ⟨h, h3, h4, h5, h6⟩
theorem box_bd {A : List RC} (hA : Can A) : (-1048576 ≤ (boxF A).x ∧ (boxF A).x ≤ 1048576) ∧ (-1048576 ≤ (boxF A).y ∧ (boxF A).y ≤ 1048576) ∧ (-2097152 ≤ (boxF A).w ∧ (boxF A).w ≤ 2097152) ∧ -2097152 ≤ (boxF A).h ∧ (boxF A).h ≤ 2097152 := by
  cases A with
  | nil => unfold boxF; dsimp only; omega
  | cons f l =>
    obtain ⟨⟨a1, a2, a3⟩, a4, a5, a6⟩ := hA.cnt f (.head _)
    have := boxF_has hA.cnt hA.fol (x := f.x) (y := f.y) (hasR_iff.2 ⟨f, .head _, by unfold RC.has; omega⟩)
    unfold InM at this
    omega
theorem ok_of {r : RC} (h : (-4000000 ≤ r.x ∧ r.x ≤ 4000000) ∧ (-4000000 ≤ r.y ∧ r.y ≤ 4000000) ∧ (-4000000 ≤ r.w ∧ r.w ≤ 4000000) ∧ -4000000 ≤ r.h ∧ r.h ≤ 4000000) : r.ok := by
  constructor <;> (unfold I64; omega)
theorem wi_bd {r : RC} {n : Int} (hn : -1000 ≤ n ∧ n ≤ 1000) (h : (-1048576 ≤ r.x ∧ r.x ≤ 1048576) ∧ (-1048576 ≤ r.y ∧ r.y ≤ 1048576) ∧ (-2097152 ≤ r.w ∧ r.w ≤ 2097152) ∧ -2097152 ≤ r.h ∧ r.h ≤ 2097152) : (wiR n r).ok := by
  apply ok_of
  unfold wiR
  dsimp only
  omega
set_option maxRecDepth 100000 in
theorem grow_big (A : List RC) (n : Int) (h : Heap) (hn : 0 < n ∧ n ≤ 128) (hA : Can A) (lA : A.length ≤ 10000) (hf : ¬ (wiR n (boxF A)).cnt) : ACalls Try.prog 12 [regE A, .val (.int .i64 n)] h (fun r h' => r = .tup [regE [], .val (.int .i64 17)] ∧ h' = h) := by
  have bd := box_bd hA
  have h1 := fun h => bbox_c A h (by omega) hA.cnt
  have h2 : ∀ h, _ := fun h => wider_c (boxF A) n h (by omega) (by omega)
  have h3 : ∀ h, _ := fun h => of_c [wiR n (boxF A)] h (by simp) (fun r hr => by
    have : r = wiR n (boxF A) := by simpa using hr
    subst this; exact wi_bd (by omega) bd)
  have h4 : ∀ h, _ := fun h => empty_c (ofF [wiR n (boxF A)]) h
  rw [of_not hf] at h3 h4
  refine ACalls.wk (Q := fun v h' => v = .tup [.agg [.val (.slice none 0 0)], .val (.int .i64 17)] ∧ h' = h) ?_ ?_
  · clear bd hf
    generalize wiR n (boxF A) = wr at *
    generalize boxF A = bx at *
    unfold regE at *
    rw [show decide (([] : List RC).length = 0) = true from rfl] at h4
    rw [show ([wr] : List RC).map RC.enc = [wr.enc] from rfl] at h3
    refine ACalls.intro Try.func12 rfl Try.ntmps12 Try.results12 (Nat.le_of_ble_eq_true rfl) ?_
    (repeat' (first | (refine iR2 ?_; refine r2b ?_; refine R2.one ?_) | (refine iS ?_; refine iN ?_; refine S.build1r ?_) | (refine iS ?_; refine iMu ?_; refine S.mapU ?_) | refine svz ⟨fun b hq => ?_⟩ | refine sv1 ?_ | refine svs ⟨?_⟩ | refine svu ⟨fun u => ?_⟩ | (refine svg (fun hg => ?_) (fun hg => ?_) <;> try (exfalso; first | omega | contradiction)) | (refine svc (fun hc => ?_) (fun hc => ?_) <;> try (exfalso; first | omega | contradiction)) | refine sv2 ?_ | refine svh (fun hb => ?_) (fun hb => ?_) | refine svb (fun b => ?_) | refine sva ?_ | refine sv3 ?_))
    refine S.call ?_; refine (h1 _).mono ?_; rintro r h' ⟨rfl, hh⟩; subst hh
    (repeat' (first | (refine iR2 ?_; refine r2b ?_; refine R2.one ?_) | (refine iS ?_; refine iN ?_; refine S.build1r ?_) | (refine iS ?_; refine iMu ?_; refine S.mapU ?_) | refine svz ⟨fun b hq => ?_⟩ | refine sv1 ?_ | refine svs ⟨?_⟩ | refine svu ⟨fun u => ?_⟩ | (refine svg (fun hg => ?_) (fun hg => ?_) <;> try (exfalso; first | omega | contradiction)) | (refine svc (fun hc => ?_) (fun hc => ?_) <;> try (exfalso; first | omega | contradiction)) | refine sv2 ?_ | refine svh (fun hb => ?_) (fun hb => ?_) | refine svb (fun b => ?_) | refine sva ?_ | refine sv3 ?_))
    refine S.call ?_; refine (h2 _).mono ?_; rintro r h' ⟨rfl, hh⟩; subst hh
    (repeat' (first | (refine iR2 ?_; refine r2b ?_; refine R2.one ?_) | (refine iS ?_; refine iN ?_; refine S.build1r ?_) | (refine iS ?_; refine iMu ?_; refine S.mapU ?_) | refine svz ⟨fun b hq => ?_⟩ | refine sv1 ?_ | refine svs ⟨?_⟩ | refine svu ⟨fun u => ?_⟩ | (refine svg (fun hg => ?_) (fun hg => ?_) <;> try (exfalso; first | omega | contradiction)) | (refine svc (fun hc => ?_) (fun hc => ?_) <;> try (exfalso; first | omega | contradiction)) | refine sv2 ?_ | refine svh (fun hb => ?_) (fun hb => ?_) | refine svb (fun b => ?_) | refine sva ?_ | refine sv3 ?_))
    refine S.call ?_; refine (h3 _).mono ?_; rintro r h' ⟨rfl, hh⟩; subst hh
    (repeat' (first | (refine iR2 ?_; refine r2b ?_; refine R2.one ?_) | (refine iS ?_; refine iN ?_; refine S.build1r ?_) | (refine iS ?_; refine iMu ?_; refine S.mapU ?_) | refine svz ⟨fun b hq => ?_⟩ | refine sv1 ?_ | refine svs ⟨?_⟩ | refine svu ⟨fun u => ?_⟩ | (refine svg (fun hg => ?_) (fun hg => ?_) <;> try (exfalso; first | omega | contradiction)) | (refine svc (fun hc => ?_) (fun hc => ?_) <;> try (exfalso; first | omega | contradiction)) | refine sv2 ?_ | refine svh (fun hb => ?_) (fun hb => ?_) | refine svb (fun b => ?_) | refine sva ?_ | refine sv3 ?_))
    refine S.call ?_; refine (h4 _).mono ?_; rintro r h' ⟨rfl, hh⟩; subst hh
    (repeat' (first | (refine iR2 ?_; refine r2b ?_; refine R2.one ?_) | (refine iS ?_; refine iN ?_; refine S.build1r ?_) | (refine iS ?_; refine iMu ?_; refine S.mapU ?_) | refine svz ⟨fun b hq => ?_⟩ | refine sv1 ?_ | refine svs ⟨?_⟩ | refine svu ⟨fun u => ?_⟩ | (refine svg (fun hg => ?_) (fun hg => ?_) <;> try (exfalso; first | omega | contradiction)) | (refine svc (fun hc => ?_) (fun hc => ?_) <;> try (exfalso; first | omega | contradiction)) | refine sv2 ?_ | refine svh (fun hb => ?_) (fun hb => ?_) | refine svb (fun b => ?_) | refine sva ?_ | refine sv3 ?_))
    exact fin_r (h' := h) ⟨rfl, rfl⟩
  · rintro v h' ⟨rfl, rfl⟩
    unfold regE
    exact ⟨_, (by (repeat (first | exact Wk.refl _ | exact Wk.nilr _ | exact Wk.nilm | apply Wk.aggc | apply Wk.tupc | exact Wk.aggn | exact Wk.tupn)); first | done | fail), rfl, rfl⟩
end Go.Proofs.Ytdknjjgmmmmfjaa
/- shape: Grow, by its loop. No condition. -/
namespace Go.Proofs.Ytdknjjgmmmmfjaa
open Go Go.VM
attribute [local irreducible] PurV Pur Step RL W D ACalls Then InBlock Fini
set_option linter.unusedVariables false
set_option linter.unusedSimpArgs false
set_option maxHeartbeats 20000000
set_option maxRecDepth 100000 in
theorem grow_more (A : List RC) (n : Int) (h : Heap) (hn : 0 < n ∧ n ≤ 128) (hA : Can A) (lA : A.length ≤ 10000) (hf : (wiR n (boxF A)).cnt) : ACalls Try.prog 12 [regE A, .val (.int .i64 n)] h (fun r h' => r = .tup [regE (growF n A), .val (.int .i64 0)] ∧ h' = h) := by
  have bd := box_bd hA
  have h1 := fun h => bbox_c A h (by omega) hA.cnt
  have h2 : ∀ h, _ := fun h => wider_c (boxF A) n h (by omega) (by omega)
  have h3 : ∀ h, _ := fun h => of_c [wiR n (boxF A)] h (by simp) (fun r hr => by
    have : r = wiR n (boxF A) := by simpa using hr
    subst this; exact wi_bd (by omega) bd)
  have h4 : ∀ h, _ := fun h => empty_c (ofF [wiR n (boxF A)]) h
  rw [of_cnt hf] at h3 h4
  have cA := hA.cnt
  have wc : ∀ r ∈ A, ∀ h, _ := fun r hr h => wider_c r n h (by obtain ⟨⟨a1, a2, a3⟩, a4, a5, a6⟩ := cA r hr; omega) (by omega)
  have ro := rects_o A
  have h5 : ∀ h, _ := fun h => of_c (A.map (wiR n)) h (by rw [List.length_map]; omega) (fun r hr => by
    obtain ⟨q, hq, rfl⟩ := List.mem_map.1 hr
    obtain ⟨⟨a1, a2, a3⟩, a4, a5, a6⟩ := cA q hq
    exact wi_bd (by omega) (by omega))
  unfold growF
  generalize ofF (A.map (wiR n)) = G at *
  clear bd hf
  generalize wiR n (boxF A) = wr at *
  generalize boxF A = bx at *
  unfold regE at *
  rw [show decide (([wr] : List RC).length = 0) = false from rfl] at h4
  rw [show ([wr] : List RC).map RC.enc = [wr.enc] from rfl] at h3
  rw [show ([wr] : List RC).map RC.enc = [wr.enc] from rfl] at h4
  refine ACalls.intro Try.func12 rfl Try.ntmps12 Try.results12 (Nat.le_of_ble_eq_true rfl) ?_
  (repeat' (first | (refine iR2 ?_; refine r2b ?_; refine R2.one ?_) | (refine iS ?_; refine iN ?_; refine S.build1r ?_) | (refine iS ?_; refine iMu ?_; refine S.mapU ?_) | refine svz ⟨fun b hq => ?_⟩ | refine sv1 ?_ | refine svs ⟨?_⟩ | refine svu ⟨fun u => ?_⟩ | (refine svg (fun hg => ?_) (fun hg => ?_) <;> try (exfalso; first | omega | contradiction)) | (refine svc (fun hc => ?_) (fun hc => ?_) <;> try (exfalso; first | omega | contradiction)) | refine sv2 ?_ | refine svh (fun hb => ?_) (fun hb => ?_) | refine svb (fun b => ?_) | refine sva ?_ | refine sv3 ?_))
  rename_i b2
  revert b; intro b4
  refine S.call ?_; refine (h1 _).mono ?_; rintro r h' ⟨rfl, hh⟩; subst hh
  (repeat' (first | (refine iR2 ?_; refine r2b ?_; refine R2.one ?_) | (refine iS ?_; refine iN ?_; refine S.build1r ?_) | (refine iS ?_; refine iMu ?_; refine S.mapU ?_) | refine svz ⟨fun b hq => ?_⟩ | refine sv1 ?_ | refine svs ⟨?_⟩ | refine svu ⟨fun u => ?_⟩ | (refine svg (fun hg => ?_) (fun hg => ?_) <;> try (exfalso; first | omega | contradiction)) | (refine svc (fun hc => ?_) (fun hc => ?_) <;> try (exfalso; first | omega | contradiction)) | refine sv2 ?_ | refine svh (fun hb => ?_) (fun hb => ?_) | refine svb (fun b => ?_) | refine sva ?_ | refine sv3 ?_))
  refine S.call ?_; refine (h2 _).mono ?_; rintro r h' ⟨rfl, hh⟩; subst hh
  (repeat' (first | (refine iR2 ?_; refine r2b ?_; refine R2.one ?_) | (refine iS ?_; refine iN ?_; refine S.build1r ?_) | (refine iS ?_; refine iMu ?_; refine S.mapU ?_) | refine svz ⟨fun b hq => ?_⟩ | refine sv1 ?_ | refine svs ⟨?_⟩ | refine svu ⟨fun u => ?_⟩ | (refine svg (fun hg => ?_) (fun hg => ?_) <;> try (exfalso; first | omega | contradiction)) | (refine svc (fun hc => ?_) (fun hc => ?_) <;> try (exfalso; first | omega | contradiction)) | refine sv2 ?_ | refine svh (fun hb => ?_) (fun hb => ?_) | refine svb (fun b => ?_) | refine sva ?_ | refine sv3 ?_))
  refine S.call ?_; refine (h3 _).mono ?_; rintro r h' ⟨rfl, hh⟩; subst hh
  (repeat' (first | (refine iR2 ?_; refine r2b ?_; refine R2.one ?_) | (refine iS ?_; refine iN ?_; refine S.build1r ?_) | (refine iS ?_; refine iMu ?_; refine S.mapU ?_) | refine svz ⟨fun b hq => ?_⟩ | refine sv1 ?_ | refine svs ⟨?_⟩ | refine svu ⟨fun u => ?_⟩ | (refine svg (fun hg => ?_) (fun hg => ?_) <;> try (exfalso; first | omega | contradiction)) | (refine svc (fun hc => ?_) (fun hc => ?_) <;> try (exfalso; first | omega | contradiction)) | refine sv2 ?_ | refine svh (fun hb => ?_) (fun hb => ?_) | refine svb (fun b => ?_) | refine sva ?_ | refine sv3 ?_))
  refine S.call ?_; refine (h4 _).mono ?_; rintro r h' ⟨rfl, hh⟩; subst hh
  (repeat' (first | (refine iS ?_; refine iMu ?_; refine S.mapU ?_) | refine svz ⟨fun b hq => ?_⟩ | refine sv1 ?_ | refine svs ⟨?_⟩ | refine svu ⟨fun u => ?_⟩ | (refine svg (fun hg => ?_) (fun hg => ?_) <;> try (exfalso; first | omega | contradiction)) | (refine svc (fun hc => ?_) (fun hc => ?_) <;> try (exfalso; first | omega | contradiction)) | refine sv2 ?_ | refine svh (fun hb => ?_) (fun hb => ?_) | refine svb (fun b => ?_) | refine sva ?_ | refine sv3 ?_))
  refine S.call ?_
  refine (ro _ (by omega)).mono ?_
  rintro r h' ⟨v, rfl, hh⟩; subst hh
  (repeat' (first | (refine iS ?_; refine iMu ?_; refine S.mapU ?_) | refine svz ⟨fun b hq => ?_⟩ | refine sv1 ?_ | refine svs ⟨?_⟩ | refine svu ⟨fun u => ?_⟩ | (refine svg (fun hg => ?_) (fun hg => ?_) <;> try (exfalso; first | omega | contradiction)) | (refine svc (fun hc => ?_) (fun hc => ?_) <;> try (exfalso; first | omega | contradiction)) | refine sv2 ?_ | refine svh (fun hb => ?_) (fun hb => ?_) | refine svb (fun b => ?_) | refine sva ?_ | refine sv3 ?_))
  refine W.loop (J := fun q : Nat × List RC => ⟨51, [(36, .val (.int .i64 (q.1 : Int))), (35, .val (.int .i64 (A.length : Int))), (6, .val v), (4, .val (.pointer (some ⟨b4, 0, none⟩))), (1, .val (.int .i64 n))], .own v 4 (q.2.map RC.enc) 43 :: .box b4 [.val (.slice none 0 0)] 29 :: h⟩)
    (Φ := fun q => q.1 ≤ A.length ∧ q.2 = (A.take q.1).map (wiR n) ++ A.drop q.1) (μ := fun q => A.length - q.1) (0, A) lee ⟨Nat.zero_le _, rfl⟩ ?_
  rintro ⟨i, M⟩ ⟨hi, hM⟩
  dsimp only at hi hM ⊢
  have hMl := map_len hi hM
  rcases Nat.lt_or_ge i A.length with hlt | hge
  · obtain ⟨r, hr⟩ : ∃ r, A[i]? = some r := ⟨_, List.getElem?_eq_getElem hlt⟩
    obtain ⟨hMx, hMs⟩ := map_step hr hM
    have wr := wc r (List.mem_of_getElem? hr)
    obtain ⟨q, hq⟩ : ∃ q : RC, q = wiR n r := ⟨_, rfl⟩
    rw [← hq] at wr hMs
    clear hM wc hq
    (repeat' (first | (refine iS ?_; refine iMu ?_; refine S.mapU ?_) | refine svz ⟨fun b hq => ?_⟩ | refine sv1 ?_ | refine svs ⟨?_⟩ | refine svu ⟨fun u => ?_⟩ | (refine svg (fun hg => ?_) (fun hg => ?_) <;> try (exfalso; first | omega | contradiction)) | (refine svc (fun hc => ?_) (fun hc => ?_) <;> try (exfalso; first | omega | contradiction)) | refine sv2 ?_ | refine svh (fun hb => ?_) (fun hb => ?_) | refine svb (fun b => ?_) | refine sva ?_ | refine sv3 ?_))
    refine S.call ?_; refine (wr _).mono ?_; rintro r h' ⟨rfl, hh⟩; subst hh
    (repeat' (first | (refine iS ?_; refine iMu ?_; refine S.mapU ?_) | refine svz ⟨fun b hq => ?_⟩ | refine sv1 ?_ | refine svs ⟨?_⟩ | refine svu ⟨fun u => ?_⟩ | (refine svg (fun hg => ?_) (fun hg => ?_) <;> try (exfalso; first | omega | contradiction)) | (refine svc (fun hc => ?_) (fun hc => ?_) <;> try (exfalso; first | omega | contradiction)) | refine sv2 ?_ | refine svh (fun hb => ?_) (fun hb => ?_) | refine svb (fun b => ?_) | refine sva ?_ | refine sv3 ?_))
    exact ⟨(i + 1, M.set i q), ⟨hlt, hMs⟩, by dsimp only; rw [List.map_set]; exact lee, by dsimp only; omega⟩
  · have hM2 := map_all hge hM
    subst hM2
    clear wc
    (repeat' (first | (refine iS ?_; refine iMu ?_; refine S.mapU ?_) | refine svz ⟨fun b hq => ?_⟩ | refine sv1 ?_ | refine svs ⟨?_⟩ | refine svu ⟨fun u => ?_⟩ | (refine svg (fun hg => ?_) (fun hg => ?_) <;> try (exfalso; first | omega | contradiction)) | (refine svc (fun hc => ?_) (fun hc => ?_) <;> try (exfalso; first | omega | contradiction)) | refine sv2 ?_ | refine svh (fun hb => ?_) (fun hb => ?_) | refine svb (fun b => ?_) | refine sva ?_ | refine sv3 ?_))
    refine Step.frz (v := v) (by (fail_if_success (apply tkG)); (repeat (first | exact Tk.here | apply Tk.there)); first | done | fail) (by repeat' (first | apply FrzT.cons | exact FrzT.rest _ | exact Frz.hit | apply Frz.aggc | apply Frz.tupc | exact Frz.aggn | exact Frz.tupn | exact Frz.keep _)) (by repeat' (first | apply FrzH.box | apply FrzH.keep | exact FrzH.rest _ | exact Frz.hit | apply Frz.aggc | apply Frz.tupc | exact Frz.aggn | exact Frz.tupn | exact Frz.keep _)) ?_
    refine S.call ?_; refine (h5 _).mono ?_; rintro r h' ⟨rfl, hh⟩; subst hh
    (repeat' (first | (refine iS ?_; refine iMu ?_; refine S.mapU ?_) | refine svz ⟨fun b hq => ?_⟩ | refine sv1 ?_ | refine svs ⟨?_⟩ | refine svu ⟨fun u => ?_⟩ | (refine svg (fun hg => ?_) (fun hg => ?_) <;> try (exfalso; first | omega | contradiction)) | (refine svc (fun hc => ?_) (fun hc => ?_) <;> try (exfalso; first | omega | contradiction)) | refine sv2 ?_ | refine svh (fun hb => ?_) (fun hb => ?_) | refine svb (fun b => ?_) | refine sva ?_ | refine sv3 ?_))
    exact fin_r (h' := h) ⟨rfl, rfl⟩
end Go.Proofs.Ytdknjjgmmmmfjaa
