/- The two boxes are one; BandTells. No condition. -/
import Derived.Test.YtifpcjnjfdjcdaaB18
namespace Go.Proofs.Ytifpcjnjfdjcdaa
open Go Go.VM
attribute [local irreducible] PurV Pur Step RL W D ACalls Then InBlock Fini
set_option linter.unusedVariables false
set_option linter.unusedSimpArgs false
set_option maxHeartbeats 20000000
theorem minX_le : ∀ (l : List RC) (a : Int), minX a l ≤ a ∧ (∀ r ∈ l, minX a l ≤ r.x) ∧ (minX a l = a ∨ ∃ r ∈ l, minX a l = r.x)
  | [], a => ⟨Int.le_refl _, fun r hr => absurd hr (by simp), .inl rfl⟩
  | q :: l, a => by
    have e : minX a (q :: l) = minX (min a q.x) l := rfl
    obtain ⟨h1, h2, h3⟩ := minX_le l (min a q.x)
    rw [e]
    refine ⟨by omega, fun r hr => ?_, ?_⟩
    · rcases List.mem_cons.1 hr with rfl | hr
      · omega
      · exact h2 r hr
    · rcases h3 with h3 | ⟨r, hr, h3⟩
      · by_cases hq : a ≤ q.x
        · left; omega
        · exact .inr ⟨q, .head _, by omega⟩
      · exact .inr ⟨r, .tail _ hr, h3⟩
theorem maxX_le : ∀ (l : List RC) (a : Int), a ≤ maxX a l ∧ (∀ r ∈ l, r.x + r.w ≤ maxX a l) ∧ (maxX a l = a ∨ ∃ r ∈ l, maxX a l = r.x + r.w)
  | [], a => ⟨Int.le_refl _, fun r hr => absurd hr (by simp), .inl rfl⟩
  | q :: l, a => by
    have e : maxX a (q :: l) = maxX (max a (q.x + q.w)) l := rfl
    obtain ⟨h1, h2, h3⟩ := maxX_le l (max a (q.x + q.w))
    rw [e]
    refine ⟨by omega, fun r hr => ?_, ?_⟩
    · rcases List.mem_cons.1 hr with rfl | hr
      · omega
      · exact h2 r hr
    · rcases h3 with h3 | ⟨r, hr, h3⟩
      · by_cases hq : q.x + q.w ≤ a
        · left; omega
        · exact .inr ⟨q, .head _, by omega⟩
      · exact .inr ⟨r, .tail _ hr, h3⟩
theorem last_of {α : Type} {R : α → α → Prop} {a d : α} {l : List α} (h : (a :: l).Pairwise R) : (a :: l).getLastD d ∈ a :: l ∧ ∀ r ∈ a :: l, r = (a :: l).getLastD d ∨ R r ((a :: l).getLastD d) := by
  have hne : a :: l ≠ [] := by simp
  have e : (a :: l).getLastD d = (a :: l).getLast hne := by simp [List.getLastD, List.getLast?_eq_some_getLast]
  rw [e]
  refine ⟨List.getLast_mem hne, fun r hr => ?_⟩
  have hd := List.dropLast_concat_getLast hne
  rw [← hd, List.pairwise_append] at h
  rw [← hd] at hr
  rcases List.mem_append.1 hr with hr | hr
  · exact .inr (h.2.2 r hr _ (List.mem_singleton.2 rfl))
  · exact .inl (List.mem_singleton.1 hr)
theorem boxF_eq {m : List RC} (hc : ∀ r ∈ m, r.cnt) (hf : m.Pairwise fol) : boxF m = rboxF m := by
  have hx := up_xsF m.reverse
  have hy := up_ysF m.reverse
  have ex : ∀ x, x ∈ xsF m.reverse ↔ ∃ r ∈ m, x = r.x ∨ x = r.x + r.w := fun x => by
    rw [mem_xsF]
    exact ⟨fun ⟨r, h1, h2, h3⟩ => ⟨r, List.mem_reverse.1 h1, h3⟩, fun ⟨r, h1, h3⟩ => ⟨r, List.mem_reverse.2 h1, hc r h1, h3⟩⟩
  have ey : ∀ x, x ∈ ysF m.reverse ↔ ∃ r ∈ m, x = r.y ∨ x = r.y + r.h := fun x => by
    rw [mem_ysF]
    exact ⟨fun ⟨r, h1, h2, h3⟩ => ⟨r, List.mem_reverse.1 h1, h3⟩, fun ⟨r, h1, h3⟩ => ⟨r, List.mem_reverse.2 h1, hc r h1, h3⟩⟩
  have hb : rboxF m = match xsF m.reverse, ysF m.reverse with
    | a :: xs, b :: ys => ⟨a, b, (a :: xs).getLastD 0 - a, (b :: ys).getLastD 0 - b⟩
    | _, _ => ⟨0, 0, 0, 0⟩ := rfl
  rw [hb]
  clear hb
  generalize xsF m.reverse = X at *
  generalize ysF m.reverse = Y at *
  cases m with
  | nil =>
    have : X = [] := List.eq_nil_iff_forall_not_mem.2 fun x h => by obtain ⟨r, hr, _⟩ := (ex x).1 h; cases hr
    subst this
    rfl
  | cons f l =>
    cases X with
    | nil => have := (ex f.x).2 ⟨f, .head _, .inl rfl⟩; cases this
    | cons a X =>
    cases Y with
    | nil => have := (ey f.y).2 ⟨f, .head _, .inl rfl⟩; cases this
    | cons b Y =>
    obtain ⟨x1, x2⟩ := last_of (d := 0) hx
    obtain ⟨y1, y2⟩ := last_of (d := 0) hy
    obtain ⟨m1, m2⟩ := last_of (d := f) hf
    have a1 : ∀ x ∈ a :: X, a ≤ x := fun x h => by
      rcases List.mem_cons.1 h with rfl | h
      · exact Int.le_refl _
      · exact Int.le_of_lt ((List.pairwise_cons.1 hx).1 x h)
    have b1 : ∀ x ∈ b :: Y, b ≤ x := fun x h => by
      rcases List.mem_cons.1 h with rfl | h
      · exact Int.le_refl _
      · exact Int.le_of_lt ((List.pairwise_cons.1 hy).1 x h)
    obtain ⟨n1, n2, n3⟩ := minX_le (f :: l) f.x
    obtain ⟨p1, p2, p3⟩ := maxX_le (f :: l) (f.x + f.w)
    unfold boxF
    simp only
    generalize (a :: X).getLastD 0 = A at *
    generalize (b :: Y).getLastD 0 = B at *
    generalize (f :: l).getLastD f = e at *
    generalize minX f.x (f :: l) = mi at *
    generalize maxX (f.x + f.w) (f :: l) = ma at *
    have hmi : ∃ r ∈ f :: l, mi = r.x := n3.elim (fun h => ⟨f, .head _, h⟩) id
    have hma : ∃ r ∈ f :: l, ma = r.x + r.w := p3.elim (fun h => ⟨f, .head _, h⟩) id
    have e1 : mi = a := by
      obtain ⟨r, hr, h1⟩ := hmi
      have h2 := a1 _ ((ex r.x).2 ⟨r, hr, .inl rfl⟩)
      obtain ⟨q, hq, h3⟩ := (ex a).1 (.head _)
      have h4 := n2 q hq
      have h5 := (hc q hq).1.2.1
      omega
    have e2 : ma = A := by
      obtain ⟨r, hr, h1⟩ := hma
      have h2 := x2 _ ((ex (r.x + r.w)).2 ⟨r, hr, .inr rfl⟩)
      obtain ⟨q, hq, h3⟩ := (ex A).1 x1
      have h4 := p2 q hq
      have h5 := (hc q hq).1.2.1
      omega
    have e3 : f.y = b := by
      have h2 := b1 _ ((ey f.y).2 ⟨f, .head _, .inl rfl⟩)
      obtain ⟨q, hq, h3⟩ := (ey b).1 (.head _)
      have h5 := (hc q hq).2.2.1
      have hfl := (hc f (.head _)).2.2.1
      rcases List.mem_cons.1 hq with rfl | hq
      · omega
      · rcases (List.pairwise_cons.1 hf).1 q hq with ⟨k1, _⟩ | k1 <;> omega
    have e4 : e.y + e.h = B := by
      have h2 := y2 _ ((ey (e.y + e.h)).2 ⟨e, m1, .inr rfl⟩)
      obtain ⟨q, hq, h3⟩ := (ey B).1 y1
      have h5 := (hc q hq).2.2.1
      have hel := (hc e m1).2.2.1
      rcases m2 q hq with rfl | ⟨k1, k2, _⟩ | k1
      · omega
      · omega
      · omega
    rw [e1, e2, e3, e4]
set_option maxRecDepth 100000 in
theorem tells_c (l : List RC) (x y : Int) (h : Heap) (ok : ∀ r ∈ l, r.ok) : ACalls Try.prog 8 [.ro 4 (l.map RC.enc), .val (.int .i64 x), .val (.int .i64 y)] h (fun r h' => r = .val (.bool true)) := by
  refine ACalls.intro Try.func8 rfl Try.ntmps8 Try.results8 (Nat.le_of_ble_eq_true rfl) ?_
  refine W.len 0 rfl (fun hlen => ?_); simp only [ints, splice, List.length_map, List.length_append, List.length_cons, List.length_nil, List.length_take, List.length_drop, List.length_set, List.length_replicate] at hlen
  by_cases hl : 30 < l.length
  · (repeat' (first | (refine iS ?_; refine iMu ?_; refine S.mapU ?_) | refine svz ⟨fun b hq => ?_⟩ | refine sv1 ?_ | refine svs ⟨?_⟩ | refine svu ⟨fun u => ?_⟩ | (refine svg (fun hg => ?_) (fun hg => ?_) <;> try (exfalso; first | omega | contradiction)) | (refine svc (fun hc => ?_) (fun hc => ?_) <;> try (exfalso; first | omega | contradiction)) | refine sv2 ?_ | refine svh (fun hb => ?_) (fun hb => ?_) | refine svb (fun b => ?_) | refine sva ?_ | refine sv3 ?_))
    refine S.call ?_; refine (awake_c _).mono ?_; rintro r h' ⟨rfl, hh⟩; subst hh
    (repeat' (first | (refine iS ?_; refine iMu ?_; refine S.mapU ?_) | refine svz ⟨fun b hq => ?_⟩ | refine sv1 ?_ | refine svs ⟨?_⟩ | refine svu ⟨fun u => ?_⟩ | (refine svg (fun hg => ?_) (fun hg => ?_) <;> try (exfalso; first | omega | contradiction)) | (refine svc (fun hc => ?_) (fun hc => ?_) <;> try (exfalso; first | omega | contradiction)) | refine sv2 ?_ | refine svh (fun hb => ?_) (fun hb => ?_) | refine svb (fun b => ?_) | refine sva ?_ | refine sv3 ?_))
    exact fin_r (h' := _) rfl
  have ho := ofF_len l
  have ho2 : (ofF l).length ≤ 30000 := by
    have : 2 * l.length * l.length ≤ 2 * 30 * 30 := Nat.mul_le_mul (Nat.mul_le_mul_left _ (by omega)) (by omega)
    omega
  have hcn := ofF_cnt l
  have hsm : ∀ r ∈ ofF l, r.sm := fun r hr => (hcn r hr).sm
  have hr1 := fun h => rrects_c l h (by omega) ok
  have hq := fun h => rsame_c (ofF l) (ofF l) h
  have hbx := fun h => bbox_c (ofF l) h (by omega) hcn
  have hrb := fun h => rbox_c (ofF l) h (by omega) (fun r hr => cnt_ok (hcn r hr))
  have hbh := fun h => bhas_c (ofF l) x y h (by omega) hcn (ofF_y l)
  have hof := fun h => of_c l h (by omega) ok
  have hrc := fun h => rects_c (ofF l) h (by omega)
  have har := fun h => barea_c (ofF l) h (by omega) hsm
  have hra := fun h => area_c (ofF l) h (by omega) hsm
  have hem := fun h => empty_c (ofF l) h
  simp only [show decide ((ofF l).length = 0) = decide (((ofF l).length : Int) = 0) from decide_eq_decide.2 (by omega)] at hem
  simp only [rectsF_ofF] at hr1
  simp only [has_ofF] at hbh
  simp only [boxF_eq hcn (ofF_fol l)] at hbx
  rw [decide_eq_true rfl] at hq
  generalize ofF l = m at *
  generalize rboxF m = bx at *
  generalize areaF m = ar at *
  (repeat' (first | (refine iS ?_; refine iMu ?_; refine S.mapU ?_) | refine svz ⟨fun b hq => ?_⟩ | refine sv1 ?_ | refine svs ⟨?_⟩ | refine svu ⟨fun u => ?_⟩ | (refine svg (fun hg => ?_) (fun hg => ?_) <;> try (exfalso; first | omega | contradiction)) | (refine svc (fun hc => ?_) (fun hc => ?_) <;> try (exfalso; first | omega | contradiction)) | refine sv2 ?_ | refine svh (fun hb => ?_) (fun hb => ?_) | refine svb (fun b => ?_) | refine sva ?_ | refine sv3 ?_))
  refine S.call ?_; refine (hof _).mono ?_; rintro r h' ⟨rfl, hh⟩; subst hh
  (repeat' (first | (refine iS ?_; refine iMu ?_; refine S.mapU ?_) | refine svz ⟨fun b hq => ?_⟩ | refine sv1 ?_ | refine svs ⟨?_⟩ | refine svu ⟨fun u => ?_⟩ | (refine svg (fun hg => ?_) (fun hg => ?_) <;> try (exfalso; first | omega | contradiction)) | (refine svc (fun hc => ?_) (fun hc => ?_) <;> try (exfalso; first | omega | contradiction)) | refine sv2 ?_ | refine svh (fun hb => ?_) (fun hb => ?_) | refine svb (fun b => ?_) | refine sva ?_ | refine sv3 ?_))
  refine S.call ?_; refine (hr1 _).mono ?_; rintro r h' ⟨rfl, hh⟩; subst hh
  (repeat' (first | (refine iS ?_; refine iMu ?_; refine S.mapU ?_) | refine svz ⟨fun b hq => ?_⟩ | refine sv1 ?_ | refine svs ⟨?_⟩ | refine svu ⟨fun u => ?_⟩ | (refine svg (fun hg => ?_) (fun hg => ?_) <;> try (exfalso; first | omega | contradiction)) | (refine svc (fun hc => ?_) (fun hc => ?_) <;> try (exfalso; first | omega | contradiction)) | refine sv2 ?_ | refine svh (fun hb => ?_) (fun hb => ?_) | refine svb (fun b => ?_) | refine sva ?_ | refine sv3 ?_))
  refine S.call ?_; refine (hrc _).mono ?_; rintro r h' ⟨rfl, hh⟩; subst hh
  (repeat' (first | (refine iS ?_; refine iMu ?_; refine S.mapU ?_) | refine svz ⟨fun b hq => ?_⟩ | refine sv1 ?_ | refine svs ⟨?_⟩ | refine svu ⟨fun u => ?_⟩ | (refine svg (fun hg => ?_) (fun hg => ?_) <;> try (exfalso; first | omega | contradiction)) | (refine svc (fun hc => ?_) (fun hc => ?_) <;> try (exfalso; first | omega | contradiction)) | refine sv2 ?_ | refine svh (fun hb => ?_) (fun hb => ?_) | refine svb (fun b => ?_) | refine sva ?_ | refine sv3 ?_))
  refine S.call ?_; refine (hq _).mono ?_; rintro r h' ⟨rfl, hh⟩; subst hh
  (repeat' (first | (refine iS ?_; refine iMu ?_; refine S.mapU ?_) | refine svz ⟨fun b hq => ?_⟩ | refine sv1 ?_ | refine svs ⟨?_⟩ | refine svu ⟨fun u => ?_⟩ | (refine svg (fun hg => ?_) (fun hg => ?_) <;> try (exfalso; first | omega | contradiction)) | (refine svc (fun hc => ?_) (fun hc => ?_) <;> try (exfalso; first | omega | contradiction)) | refine sv2 ?_ | refine svh (fun hb => ?_) (fun hb => ?_) | refine svb (fun b => ?_) | refine sva ?_ | refine sv3 ?_))
  refine S.call ?_; refine (hbx _).mono ?_; rintro r h' ⟨rfl, hh⟩; subst hh
  (repeat' (first | (refine iS ?_; refine iMu ?_; refine S.mapU ?_) | refine svz ⟨fun b hq => ?_⟩ | refine sv1 ?_ | refine svs ⟨?_⟩ | refine svu ⟨fun u => ?_⟩ | (refine svg (fun hg => ?_) (fun hg => ?_) <;> try (exfalso; first | omega | contradiction)) | (refine svc (fun hc => ?_) (fun hc => ?_) <;> try (exfalso; first | omega | contradiction)) | refine sv2 ?_ | refine svh (fun hb => ?_) (fun hb => ?_) | refine svb (fun b => ?_) | refine sva ?_ | refine sv3 ?_))
  refine S.call ?_; refine (hrb _).mono ?_; rintro r h' ⟨rfl, hh⟩; subst hh
  (repeat' (first | (refine iS ?_; refine iMu ?_; refine S.mapU ?_) | refine svz ⟨fun b hq => ?_⟩ | refine sv1 ?_ | refine svs ⟨?_⟩ | refine svu ⟨fun u => ?_⟩ | (refine svg (fun hg => ?_) (fun hg => ?_) <;> try (exfalso; first | omega | contradiction)) | (refine svc (fun hc => ?_) (fun hc => ?_) <;> try (exfalso; first | omega | contradiction)) | refine sv2 ?_ | refine svh (fun hb => ?_) (fun hb => ?_) | refine svb (fun b => ?_) | refine sva ?_ | refine sv3 ?_))
  refine S.V (v := .val (.bool (decide (bx = bx)))) ?_ (pur_eqls (p := bx = bx) rfl rfl (by repeat (first | exact IEq.nil | apply IEq.cons)) rfl (RC.eq4 bx bx))
  rw [decide_eq_true rfl]
  (repeat' (first | (refine iS ?_; refine iMu ?_; refine S.mapU ?_) | refine svz ⟨fun b hq => ?_⟩ | refine sv1 ?_ | refine svs ⟨?_⟩ | refine svu ⟨fun u => ?_⟩ | (refine svg (fun hg => ?_) (fun hg => ?_) <;> try (exfalso; first | omega | contradiction)) | (refine svc (fun hc => ?_) (fun hc => ?_) <;> try (exfalso; first | omega | contradiction)) | refine sv2 ?_ | refine svh (fun hb => ?_) (fun hb => ?_) | refine svb (fun b => ?_) | refine sva ?_ | refine sv3 ?_))
  refine S.call ?_; refine (har _).mono ?_; rintro r h' ⟨rfl, hh⟩; subst hh
  (repeat' (first | (refine iS ?_; refine iMu ?_; refine S.mapU ?_) | refine svz ⟨fun b hq => ?_⟩ | refine sv1 ?_ | refine svs ⟨?_⟩ | refine svu ⟨fun u => ?_⟩ | (refine svg (fun hg => ?_) (fun hg => ?_) <;> try (exfalso; first | omega | contradiction)) | (refine svc (fun hc => ?_) (fun hc => ?_) <;> try (exfalso; first | omega | contradiction)) | refine sv2 ?_ | refine svh (fun hb => ?_) (fun hb => ?_) | refine svb (fun b => ?_) | refine sva ?_ | refine sv3 ?_))
  refine S.call ?_; refine (hra _).mono ?_; rintro r h' ⟨rfl, hh⟩; subst hh
  (repeat' (first | (refine iS ?_; refine iMu ?_; refine S.mapU ?_) | refine svz ⟨fun b hq => ?_⟩ | refine sv1 ?_ | refine svs ⟨?_⟩ | refine svu ⟨fun u => ?_⟩ | (refine svg (fun hg => ?_) (fun hg => ?_) <;> try (exfalso; first | omega | contradiction)) | (refine svc (fun hc => ?_) (fun hc => ?_) <;> try (exfalso; first | omega | contradiction)) | refine sv2 ?_ | refine svh (fun hb => ?_) (fun hb => ?_) | refine svb (fun b => ?_) | refine sva ?_ | refine sv3 ?_))
  refine S.call ?_; refine (hem _).mono ?_; rintro r h' ⟨rfl, hh⟩; subst hh
  (repeat' (first | (refine iS ?_; refine iMu ?_; refine S.mapU ?_) | refine svz ⟨fun b hq => ?_⟩ | refine sv1 ?_ | refine svs ⟨?_⟩ | refine svu ⟨fun u => ?_⟩ | (refine svg (fun hg => ?_) (fun hg => ?_) <;> try (exfalso; first | omega | contradiction)) | (refine svc (fun hc => ?_) (fun hc => ?_) <;> try (exfalso; first | omega | contradiction)) | refine sv2 ?_ | refine svh (fun hb => ?_) (fun hb => ?_) | refine svb (fun b => ?_) | refine sva ?_ | refine sv3 ?_))
  refine S.call ?_; refine (hbh _).mono ?_; rintro r h' ⟨rfl, hh⟩; subst hh
  (repeat' (first | (refine iS ?_; refine iMu ?_; refine S.mapU ?_) | refine svz ⟨fun b hq => ?_⟩ | refine sv1 ?_ | refine svs ⟨?_⟩ | refine svu ⟨fun u => ?_⟩ | (refine svg (fun hg => ?_) (fun hg => ?_) <;> try (exfalso; first | omega | contradiction)) | (refine svc (fun hc => ?_) (fun hc => ?_) <;> try (exfalso; first | omega | contradiction)) | refine sv2 ?_ | refine svh (fun hb => ?_) (fun hb => ?_) | refine svb (fun b => ?_) | refine sva ?_ | refine sv3 ?_))
  refine S.call ?_; refine (rhas_c l x y _ ok).mono ?_; rintro r h' ⟨rfl, hh⟩; subst hh
  (repeat' (first | (refine iS ?_; refine iMu ?_; refine S.mapU ?_) | refine svz ⟨fun b hq => ?_⟩ | refine sv1 ?_ | refine svs ⟨?_⟩ | refine svu ⟨fun u => ?_⟩ | (refine svg (fun hg => ?_) (fun hg => ?_) <;> try (exfalso; first | omega | contradiction)) | (refine svc (fun hc => ?_) (fun hc => ?_) <;> try (exfalso; first | omega | contradiction)) | refine sv2 ?_ | refine svh (fun hb => ?_) (fun hb => ?_) | refine svb (fun b => ?_) | refine sva ?_ | refine sv3 ?_))
  refine S.call ?_; refine (awake_c _).mono ?_; rintro r h' ⟨rfl, hh⟩; subst hh
  (repeat' (first | (refine iS ?_; refine iMu ?_; refine S.mapU ?_) | refine svz ⟨fun b hq => ?_⟩ | refine sv1 ?_ | refine svs ⟨?_⟩ | refine svu ⟨fun u => ?_⟩ | (refine svg (fun hg => ?_) (fun hg => ?_) <;> try (exfalso; first | omega | contradiction)) | (refine svc (fun hc => ?_) (fun hc => ?_) <;> try (exfalso; first | omega | contradiction)) | refine sv2 ?_ | refine svh (fun hb => ?_) (fun hb => ?_) | refine svb (fun b => ?_) | refine sva ?_ | refine sv3 ?_))
  exact fin_r (h' := _) rfl
end Go.Proofs.Ytifpcjnjfdjcdaa
