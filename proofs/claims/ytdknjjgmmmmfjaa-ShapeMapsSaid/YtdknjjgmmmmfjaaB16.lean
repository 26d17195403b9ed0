/- The reference's spans, Rects, Box. No condition. -/
import Derived.Test.YtdknjjgmmmmfjaaB15
namespace Go.Proofs.Ytdknjjgmmmmfjaa
open Go Go.VM
attribute [local irreducible] PurV Pur Step RL W D ACalls Then InBlock Fini
set_option linter.unusedVariables false
set_option linter.unusedSimpArgs false
set_option maxHeartbeats 20000000
/-- The places between the first edges that are had, as stretches. -/
def addC (C : List (Int × Int)) (a c : Int) : List (Int × Int) := match C.getLast? with
  | some p => if p.2 = a then C.dropLast ++ [(p.1, c)] else C ++ [(a, c)]
  | none => [(a, c)]
def cellS (l : List RC) (xs : List Int) (y : Int) : Nat → List (Int × Int)
  | 0 => []
  | i + 1 => if hasF l (xs.getD i 0) y then addC (cellS l xs y i) (xs.getD i 0) (xs.getD (i + 1) 0) else cellS l xs y i
theorem addC_len (C : List (Int × Int)) (a c : Int) : (addC C a c).length ≤ C.length + 1 := by
  unfold addC
  split
  · rename_i p hp
    split
    · rw [List.length_append, List.length_dropLast, List.length_singleton]
      have : C ≠ [] := fun e => by rw [e] at hp; cases hp
      have := List.length_pos_iff.2 this
      omega
    · rw [List.length_append, List.length_singleton]; omega
  · simp
theorem cellS_len (l : List RC) (xs : List Int) (y : Int) : ∀ i, (cellS l xs y i).length ≤ i
  | 0 => Nat.le_refl _
  | i + 1 => by
    have := cellS_len l xs y i
    have h2 := addC_len (cellS l xs y i) (xs.getD i 0) (xs.getD (i + 1) 0)
    unfold cellS
    split <;> omega
/-- What is known of the stretches so far. -/
theorem cellS_spec {l : List RC} {xs : List Int} {y : Int} (hu : Up_ xs) : ∀ i, i < xs.length →
    CanS (cellS l xs y i) ∧ (∀ p ∈ cellS l xs y i, p.1 ∈ xs ∧ p.2 ∈ xs ∧ p.2 ≤ xs.getD i 0) ∧ ∀ x, inS (cellS l xs y i) x ↔ ∃ j, j < i ∧ hasF l (xs.getD j 0) y = true ∧ xs.getD j 0 ≤ x ∧ x < xs.getD (j + 1) 0
  | 0, _ => ⟨⟨fun p hp => (by cases hp), .nil⟩, ⟨fun p hp => (by cases hp), fun x => ⟨fun h => absurd h not_inS_nil, fun ⟨j, hj, _⟩ => (by omega)⟩⟩⟩
  | i + 1, hi => by
    obtain ⟨h1, h2, h3⟩ := cellS_spec (l := l) (y := y) hu i (by omega)
    have hlt := up_getD hu hi
    have m0 : xs.getD i 0 ∈ xs := getD_mem (by omega)
    have m1 : xs.getD (i + 1) 0 ∈ xs := getD_mem hi
    have hor : ∀ x, (∃ j, j < i + 1 ∧ hasF l (xs.getD j 0) y = true ∧ xs.getD j 0 ≤ x ∧ x < xs.getD (j + 1) 0) ↔ inS (cellS l xs y i) x ∨ (hasF l (xs.getD i 0) y = true ∧ xs.getD i 0 ≤ x ∧ x < xs.getD (i + 1) 0) := fun x => by
      rw [h3]
      constructor
      · rintro ⟨j, hj, k⟩
        by_cases e : j = i
        · subst e; exact .inr k
        · exact .inl ⟨j, by omega, k⟩
      · rintro (⟨j, hj, k⟩ | k)
        · exact ⟨j, by omega, k⟩
        · exact ⟨i, by omega, k⟩
    have hone : ∀ p x, inS [p] x ↔ p.1 ≤ x ∧ x < p.2 := fun p x => by
      rw [inS_cons]; exact ⟨fun h => h.resolve_right not_inS_nil, .inl⟩
    have happ : ∀ (a b : List (Int × Int)) x, inS (a ++ b) x ↔ inS a x ∨ inS b x := fun a b x => by
      unfold inS
      constructor
      · rintro ⟨p, hp, k⟩
        rcases List.mem_append.1 hp with hp | hp
        · exact .inl ⟨p, hp, k⟩
        · exact .inr ⟨p, hp, k⟩
      · rintro (⟨p, hp, k⟩ | ⟨p, hp, k⟩)
        · exact ⟨p, List.mem_append_left _ hp, k⟩
        · exact ⟨p, List.mem_append_right _ hp, k⟩
    unfold cellS
    by_cases hh : hasF l (xs.getD i 0) y = true
    · rw [if_pos hh]
      unfold addC
      cases hl : (cellS l xs y i).getLast? with
      | none =>
        have e : cellS l xs y i = [] := List.getLast?_eq_none_iff.1 hl
        refine ⟨⟨by simpa using hlt, by simp⟩, by simpa using ⟨m0, m1⟩, fun x => ?_⟩
        simp only
        rw [hor, hone, e]
        simp only [hh, true_and]
        exact ⟨.inr, fun k => k.resolve_left not_inS_nil⟩
      | some p =>
        have e : cellS l xs y i = (cellS l xs y i).dropLast ++ [p] := by
          rw [List.getLast?_eq_some_iff] at hl
          obtain ⟨ys, hys⟩ := hl
          rw [hys]; simp
        have hp : p ∈ cellS l xs y i := List.mem_of_getLast? hl
        have hpp := h1.pos p hp
        have hpi := h2 p hp
        by_cases hm : p.2 = xs.getD i 0
        · simp only [hm, if_true]
          have ha := h1.apart
          rw [e, List.pairwise_append] at ha
          refine ⟨⟨fun q hq => ?_, List.pairwise_append.2 ⟨ha.1, by simp, fun q hq r hr => ?_⟩⟩, fun q hq => ?_, fun x => ?_⟩
          · rcases List.mem_append.1 hq with hq | hq
            · exact h1.pos q (List.dropLast_subset _ hq)
            · rw [List.mem_singleton.1 hq]; simp only; omega
          · rw [List.mem_singleton.1 hr]
            exact ha.2.2 q hq p (List.mem_singleton_self _)
          · rcases List.mem_append.1 hq with hq | hq
            · have := h2 q (List.dropLast_subset _ hq); exact ⟨this.1, this.2.1, by omega⟩
            · rw [List.mem_singleton.1 hq]; exact ⟨hpi.1, m1, Int.le_refl _⟩
          · rw [hor, happ, hone]
            conv => rhs; rw [e, happ, hone]
            simp only [hh, true_and]
            constructor
            · rintro (k | ⟨k1, k2⟩)
              · exact .inl (.inl k)
              · by_cases hx : x < p.2
                · exact .inl (.inr ⟨k1, hx⟩)
                · exact .inr ⟨by omega, k2⟩
            · rintro ((k | ⟨k1, k2⟩) | ⟨k1, k2⟩)
              · exact .inl k
              · exact .inr ⟨k1, by omega⟩
              · exact .inr ⟨by omega, k2⟩
        · simp only [hm, if_false]
          have hall : ∀ q ∈ cellS l xs y i, q.2 < xs.getD i 0 := fun q hq => by
            have hq2 := h2 q hq
            rw [e] at hq
            rcases List.mem_append.1 hq with hq | hq
            · have ha := h1.apart
              rw [e, List.pairwise_append] at ha
              have := ha.2.2 q hq p (List.mem_singleton_self _)
              omega
            · rw [List.mem_singleton.1 hq]; omega
          refine ⟨⟨fun q hq => ?_, List.pairwise_append.2 ⟨h1.apart, by simp, fun q hq r hr => ?_⟩⟩, fun q hq => ?_, fun x => ?_⟩
          · rcases List.mem_append.1 hq with hq | hq
            · exact h1.pos q hq
            · rw [List.mem_singleton.1 hq]; exact hlt
          · rw [List.mem_singleton.1 hr]; exact hall q hq
          · rcases List.mem_append.1 hq with hq | hq
            · have := h2 q hq; exact ⟨this.1, this.2.1, by omega⟩
            · rw [List.mem_singleton.1 hq]; exact ⟨m0, m1, Int.le_refl _⟩
          · rw [hor, happ, hone]
            simp only [hh, true_and]
    · rw [if_neg hh]
      refine ⟨h1, fun q hq => by have := h2 q hq; exact ⟨this.1, this.2.1, by omega⟩, fun x => ?_⟩
      rw [hor]
      exact ⟨.inl, fun k => k.resolve_right fun q => hh q.1⟩
theorem rects_snoc {y h : Int} {s : List (Int × Int)} {p : Int × Int} : Bd.rects ⟨y, h, s ++ [p]⟩ = Bd.rects ⟨y, h, s⟩ ++ [⟨p.1, y, p.2 - p.1, h⟩] := by simp [Bd.rects]
set_option maxRecDepth 100000 in
theorem rspans_c0 (l : List RC) (xs : List Int) (y z : Int) (h : Heap) (hl : xs.length ≤ 1000000) (ok : ∀ r ∈ l, r.ok) (hu : Up_ xs) (hx : ∀ x ∈ xs, InM x) :
    ACalls Try.prog 55 [.ro 4 (l.map RC.enc), .ro 1 (ints .i64 xs), .val (.int .i64 y), .val (.int .i64 z)] h (fun r h' => ∃ v, r = .val v ∧ h' = .own v 4 ((Bd.rects ⟨y, z, cellS l xs y (xs.length - 1)⟩).map RC.enc) 43 :: h) := by
  refine ACalls.intro Try.func55 rfl Try.ntmps55 Try.results55 (Nat.le_of_ble_eq_true rfl) ?_
  (repeat' (first | (refine iS ?_; refine iMu ?_; refine S.mapU ?_) | refine svz ⟨fun b hq => ?_⟩ | refine sv1 ?_ | refine svs ⟨?_⟩ | refine svu ⟨fun u => ?_⟩ | (refine svg (fun hg => ?_) (fun hg => ?_) <;> try (exfalso; first | omega | contradiction)) | (refine svc (fun hc => ?_) (fun hc => ?_) <;> try (exfalso; first | omega | contradiction)) | refine sv2 ?_ | refine svh (fun hb => ?_) (fun hb => ?_) | refine svb (fun b => ?_) | refine sva ?_ | refine sv3 ?_))
  refine W.nil_ 4 43 ?_
  refine W.loop (J := fun q : Nat × Value => ⟨89, [(10, .val (.int .i64 (q.1 : Int))), (9, .val q.2), (0, .ro 4 (l.map RC.enc)), (1, .ro 1 (ints .i64 xs)), (2, .val (.int .i64 y)), (3, .val (.int .i64 z))], .own q.2 4 ((Bd.rects ⟨y, z, cellS l xs y q.1⟩).map RC.enc) 43 :: h⟩)
    (Φ := fun q => q.1 ≤ xs.length - 1) (μ := fun q => xs.length - q.1) (0, .slice none 0 0) lee (Nat.zero_le _) ?_
  rintro ⟨i, v⟩ hi
  dsimp only at hi ⊢
  rcases Nat.lt_or_ge (i + 1) xs.length with hlt | hge
  · obtain ⟨a, ha⟩ : ∃ a, xs[i]? = some a := ⟨_, List.getElem?_eq_getElem (by omega)⟩
    obtain ⟨c, hc⟩ : ∃ c, xs[((i : Int) + 1).toNat]? = some c := ⟨_, List.getElem?_eq_getElem (by omega)⟩
    have hc2 : xs[i + 1]? = some c := by rw [show i + 1 = ((i : Int) + 1).toNat by omega]; exact hc
    obtain ⟨hk1, hk2, _⟩ := cellS_spec (l := l) (y := y) hu i (by omega)
    have had : xs.getD i 0 = a := by rw [List.getD_eq_getElem?_getD, ha]; rfl
    have hcd : xs.getD (i + 1) 0 = c := by rw [List.getD_eq_getElem?_getD, hc2]; rfl
    have hac := up_getD hu hlt
    obtain ⟨n1, n2⟩ := hx a (List.mem_of_getElem? ha)
    obtain ⟨n3, n4⟩ := hx c (List.mem_of_getElem? hc)
    have hcl := cellS_len l xs y i
    have hstep : cellS l xs y (i + 1) = if hasF l (xs.getD i 0) y then addC (cellS l xs y i) (xs.getD i 0) (xs.getD (i + 1) 0) else cellS l xs y i := rfl
    rw [had, hcd] at hstep
    rw [had, hcd] at hac
    generalize cellS l xs y i = C at *
    have hrl : (Bd.rects ⟨y, z, C⟩).length = C.length := by simp [Bd.rects]
    (repeat' (first | (refine iS ?_; refine iMu ?_; refine S.mapU ?_) | refine svz ⟨fun b hq => ?_⟩ | refine sv1 ?_ | refine svs ⟨?_⟩ | refine svu ⟨fun u => ?_⟩ | (refine svg (fun hg => ?_) (fun hg => ?_) <;> try (exfalso; first | omega | contradiction)) | (refine svc (fun hc => ?_) (fun hc => ?_) <;> try (exfalso; first | omega | contradiction)) | refine sv2 ?_ | refine svh (fun hb => ?_) (fun hb => ?_) | refine svb (fun b => ?_) | refine sva ?_ | refine sv3 ?_))
    refine S.call ?_; refine (rhas_c l a y _ ok).mono ?_; rintro r h' ⟨rfl, hh⟩; subst hh
    cases hh : hasF l a y with
    | false =>
      rw [hh, if_neg (by simp)] at hstep
      (repeat' (first | (refine iS ?_; refine iMu ?_; refine S.mapU ?_) | refine svz ⟨fun b hq => ?_⟩ | refine sv1 ?_ | refine svs ⟨?_⟩ | refine svu ⟨fun u => ?_⟩ | (refine svg (fun hg => ?_) (fun hg => ?_) <;> try (exfalso; first | omega | contradiction)) | (refine svc (fun hc => ?_) (fun hc => ?_) <;> try (exfalso; first | omega | contradiction)) | refine sv2 ?_ | refine svh (fun hb => ?_) (fun hb => ?_) | refine svb (fun b => ?_) | refine sva ?_ | refine sv3 ?_))
      exact ⟨(i + 1, v), by dsimp only; omega, by dsimp only; rw [hstep]; exact lee, by dsimp only; omega⟩
    | true =>
      rw [hh, if_pos rfl] at hstep
      unfold addC at hstep
      cases hl' : C.getLast? with
      | none =>
        have e : C = [] := List.getLast?_eq_none_iff.1 hl'
        subst e
        rw [hl'] at hstep
        simp only at hstep
        (repeat' (first | (refine iS ?_; refine iMu ?_; refine S.mapU ?_) | refine svz ⟨fun b hq => ?_⟩ | refine sv1 ?_ | refine svs ⟨?_⟩ | refine svu ⟨fun u => ?_⟩ | (refine svg (fun hg => ?_) (fun hg => ?_) <;> try (exfalso; first | omega | contradiction)) | (refine svc (fun hc => ?_) (fun hc => ?_) <;> try (exfalso; first | omega | contradiction)) | refine sv2 ?_ | refine svh (fun hb => ?_) (fun hb => ?_) | refine svb (fun b => ?_) | refine sva ?_ | refine sv3 ?_))
        exact ⟨(i + 1, u), by dsimp only; omega, by dsimp only; rw [hstep]; exact lee, by dsimp only; omega⟩
      | some p =>
        rw [hl'] at hstep
        simp only at hstep
        obtain ⟨C', hC'⟩ := List.getLast?_eq_some_iff.1 hl'
        have hpm := hk2 p (List.mem_of_getLast? hl')
        obtain ⟨p1, p2⟩ := hx p.1 hpm.1
        obtain ⟨p3, p4⟩ := hx p.2 hpm.2.1
        have hpos : 0 < (Bd.rects ⟨y, z, C⟩).length := by rw [hrl, hC']; simp
        obtain ⟨q, hq, hqx, hqw, hset⟩ : ∃ q : RC, (Bd.rects ⟨y, z, C⟩)[(((Bd.rects ⟨y, z, C⟩).length : Int) - 1).toNat]? = some q ∧ q.x = p.1 ∧ q.w = p.2 - p.1 ∧
            (Bd.rects ⟨y, z, C⟩).set (((Bd.rects ⟨y, z, C⟩).length : Int) - 1).toNat { q with w := c - q.x } = Bd.rects ⟨y, z, C.dropLast ++ [(p.1, c)]⟩ := by
          have e1 : (((Bd.rects ⟨y, z, C⟩).length : Int) - 1).toNat = (Bd.rects ⟨y, z, C'⟩).length := by
            rw [hrl, hC', List.length_append, List.length_singleton]; simp [Bd.rects]
          refine ⟨⟨p.1, y, p.2 - p.1, z⟩, ?_, rfl, rfl, ?_⟩
          · rw [e1, hC', rects_snoc, List.getElem?_append_right (Nat.le_refl _), Nat.sub_self]; rfl
          · rw [e1, hC', rects_snoc, List.dropLast_concat, rects_snoc, List.set_append_right _ _ (Nat.le_refl _), Nat.sub_self]
            rfl
        by_cases hm : p.2 = a
        · rw [if_pos hm] at hstep
          (repeat' (first | (refine iS ?_; refine iMu ?_; refine S.mapU ?_) | refine svz ⟨fun b hq => ?_⟩ | refine sv1 ?_ | refine svs ⟨?_⟩ | refine svu ⟨fun u => ?_⟩ | (refine svg (fun hg => ?_) (fun hg => ?_) <;> try (exfalso; first | omega | contradiction)) | (refine svc (fun hc => ?_) (fun hc => ?_) <;> try (exfalso; first | omega | contradiction)) | refine sv2 ?_ | refine svh (fun hb => ?_) (fun hb => ?_) | refine svb (fun b => ?_) | refine sva ?_ | refine sv3 ?_))
          exact ⟨(i + 1, v), by dsimp only; omega, by dsimp only; rw [hstep, ← hset, List.map_set]; exact lee, by dsimp only; omega⟩
        · rw [if_neg hm] at hstep
          (repeat' (first | (refine iS ?_; refine iMu ?_; refine S.mapU ?_) | refine svz ⟨fun b hq => ?_⟩ | refine sv1 ?_ | refine svs ⟨?_⟩ | refine svu ⟨fun u => ?_⟩ | (refine svg (fun hg => ?_) (fun hg => ?_) <;> try (exfalso; first | omega | contradiction)) | (refine svc (fun hc => ?_) (fun hc => ?_) <;> try (exfalso; first | omega | contradiction)) | refine sv2 ?_ | refine svh (fun hb => ?_) (fun hb => ?_) | refine svb (fun b => ?_) | refine sva ?_ | refine sv3 ?_))
          exact ⟨(i + 1, u), by dsimp only; omega, by dsimp only; rw [hstep, rects_snoc, List.map_append]; exact lee, by dsimp only; omega⟩
  · have hie : i = xs.length - 1 := by omega
    subst hie
    (repeat' (first | (refine iS ?_; refine iMu ?_; refine S.mapU ?_) | refine svz ⟨fun b hq => ?_⟩ | refine sv1 ?_ | refine svs ⟨?_⟩ | refine svu ⟨fun u => ?_⟩ | (refine svg (fun hg => ?_) (fun hg => ?_) <;> try (exfalso; first | omega | contradiction)) | (refine svc (fun hc => ?_) (fun hc => ?_) <;> try (exfalso; first | omega | contradiction)) | refine sv2 ?_ | refine svh (fun hb => ?_) (fun hb => ?_) | refine svb (fun b => ?_) | refine sva ?_ | refine sv3 ?_))
    exact fin_r (h' := .own v 4 ((Bd.rects ⟨y, z, cellS l xs y (xs.length - 1)⟩).map RC.enc) 43 :: h) ⟨v, rfl, rfl⟩
theorem rspans_c (l : List RC) (xs : List Int) (y z : Int) (h : Heap) (hl : xs.length ≤ 1000000) (ok : ∀ r ∈ l, r.ok) (hu : Up_ xs) (hx : ∀ x ∈ xs, InM x) :
    ACalls Try.prog 55 [.ro 4 (l.map RC.enc), .ro 1 (ints .i64 xs), .val (.int .i64 y), .val (.int .i64 z)] h (fun r h' => r = .ro 4 ((Bd.rects ⟨y, z, cellS l xs y (xs.length - 1)⟩).map RC.enc) ∧ h' = h) := by
  refine (rspans_c0 l xs y z h hl ok hu hx).frz ?_
  rintro r h' ⟨v, rfl, rfl⟩
  exact ⟨v, 4, _, _, _, h, .here, .hit, rfl, rfl⟩
end Go.Proofs.Ytdknjjgmmmmfjaa
