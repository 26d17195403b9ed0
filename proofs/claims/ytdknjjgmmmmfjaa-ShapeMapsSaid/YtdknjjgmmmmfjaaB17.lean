/- The reference's Rects and Box. No condition. -/
import Derived.Test.YtdknjjgmmmmfjaaB16
namespace Go.Proofs.Ytdknjjgmmmmfjaa
open Go Go.VM
attribute [local irreducible] PurV Pur Step RL W D ACalls Then InBlock Fini
set_option linter.unusedVariables false
set_option linter.unusedSimpArgs false
set_option maxHeartbeats 20000000
theorem mem_xsF : ∀ {l : List RC} {x : Int}, x ∈ xsF l ↔ ∃ r ∈ l, r.cnt ∧ (x = r.x ∨ x = r.x + r.w)
  | [], x => by simp [xsF]
  | r :: l, x => by
    unfold xsF
    by_cases h : r.cnt
    · rw [if_pos h, mem_insS, mem_insS, mem_xsF]
      constructor
      · rintro (e | e | ⟨q, hq, k⟩)
        · exact ⟨r, List.mem_cons_self .., h, .inr e⟩
        · exact ⟨r, List.mem_cons_self .., h, .inl e⟩
        · exact ⟨q, .tail _ hq, k⟩
      · rintro ⟨q, hq, k1, k2⟩
        rcases List.mem_cons.1 hq with rfl | hq
        · exact k2.elim (fun e => .inr (.inl e)) .inl
        · exact .inr (.inr ⟨q, hq, k1, k2⟩)
    · rw [if_neg h, mem_xsF]
      constructor
      · rintro ⟨q, hq, k⟩; exact ⟨q, .tail _ hq, k⟩
      · rintro ⟨q, hq, k1, k2⟩
        rcases List.mem_cons.1 hq with rfl | hq
        · exact absurd k1 h
        · exact ⟨q, hq, k1, k2⟩
theorem mem_ysF : ∀ {l : List RC} {x : Int}, x ∈ ysF l ↔ ∃ r ∈ l, r.cnt ∧ (x = r.y ∨ x = r.y + r.h)
  | [], x => by simp [ysF]
  | r :: l, x => by
    unfold ysF
    by_cases h : r.cnt
    · rw [if_pos h, mem_insS, mem_insS, mem_ysF]
      constructor
      · rintro (e | e | ⟨q, hq, k⟩)
        · exact ⟨r, List.mem_cons_self .., h, .inr e⟩
        · exact ⟨r, List.mem_cons_self .., h, .inl e⟩
        · exact ⟨q, .tail _ hq, k⟩
      · rintro ⟨q, hq, k1, k2⟩
        rcases List.mem_cons.1 hq with rfl | hq
        · exact k2.elim (fun e => .inr (.inl e)) .inl
        · exact .inr (.inr ⟨q, hq, k1, k2⟩)
    · rw [if_neg h, mem_ysF]
      constructor
      · rintro ⟨q, hq, k⟩; exact ⟨q, .tail _ hq, k⟩
      · rintro ⟨q, hq, k1, k2⟩
        rcases List.mem_cons.1 hq with rfl | hq
        · exact absurd k1 h
        · exact ⟨q, hq, k1, k2⟩
theorem xsF_inM (l : List RC) : ∀ x ∈ xsF l, InM x := by
  intro x hx
  obtain ⟨r, hr, ⟨⟨a1, a2, a3⟩, _⟩, h⟩ := mem_xsF.1 hx
  unfold InM
  rcases h with h | h <;> omega
theorem ysF_inM (l : List RC) : ∀ x ∈ ysF l, InM x := by
  intro x hx
  obtain ⟨r, hr, ⟨_, ⟨a1, a2, a3⟩⟩, h⟩ := mem_ysF.1 hx
  unfold InM
  rcases h with h | h <;> omega
def rowR (l : List RC) (y : Int) : List (Int × Int) := cellS l (xsF l.reverse) y ((xsF l.reverse).length - 1)
def rectsF (l : List RC) : List RC := flatB (bnd (ysF l.reverse) (rowR l) ((ysF l.reverse).length - 1)).reverse
theorem rowR_can (l : List RC) (y : Int) : CanS (rowR l y) := by
  unfold rowR
  cases h : xsF l.reverse with
  | nil => exact ⟨fun p hp => (by cases hp), .nil⟩
  | cons a xs => exact (cellS_spec (h ▸ up_xsF l.reverse) _ (by simp)).1
theorem rowR_inM (l : List RC) (y : Int) : ∀ p ∈ rowR l y, InM p.1 ∧ InM p.2 := by
  unfold rowR
  intro p hp
  have hpos : (xsF l.reverse).length ≠ 0 := fun e => by
    rw [List.eq_nil_of_length_eq_zero e] at hp; cases hp
  obtain ⟨_, h2, _⟩ := cellS_spec (l := l) (y := y) (up_xsF l.reverse) ((xsF l.reverse).length - 1) (by omega)
  exact ⟨xsF_inM _ _ (h2 p hp).1, xsF_inM _ _ (h2 p hp).2.1⟩
theorem rowR_len (l : List RC) (y : Int) : (rowR l y).length ≤ 2 * l.length := by
  unfold rowR
  have h1 := cellS_len l (xsF l.reverse) y ((xsF l.reverse).length - 1)
  have h2 := len_xsF l.reverse
  rw [List.length_reverse] at h2
  omega
/-- The row before, where it is not empty, is the newest band's. -/
def LI (B : List Bd) (L : List RC) (y : Int) : Prop := (L = [] ∧ ∀ c ∈ B, c.y + c.h < y) ∨ ∃ c B', B = c :: B' ∧ c.y + c.h = y ∧ alikeP L c.rects
theorem rects_alike {y h y' h' : Int} {s s' : List (Int × Int)} : alikeP (Bd.rects ⟨y, h, s⟩) (Bd.rects ⟨y', h', s'⟩) ↔ s = s' := by
  unfold alikeP Bd.rects
  rw [List.map_map, List.map_map]
  constructor
  · intro e
    refine (List.map_inj_right (f := fun p : Int × Int => (p.1, p.2 - p.1)) fun p q hpq => ?_).1 e
    obtain ⟨a, b⟩ := p
    obtain ⟨c, d⟩ := q
    simp only [Prod.mk.injEq] at hpq ⊢
    omega
  · intro e; rw [e]; rfl
theorem rround {B : List Bd} {L : List RC} {y h : Int} {s : List (Int × Int)} (hB : CanB B.reverse) (hy : ∀ b ∈ B, b.y + b.h ≤ y) (hh : 0 < h) (hL : LI B L y) :
    ((L = [] ∨ ¬ alikeP (Bd.rects ⟨y, h, s⟩) L) → flatB (addB B y h s).reverse = flatB B.reverse ++ Bd.rects ⟨y, h, s⟩ ∧ LI (addB B y h s) (Bd.rects ⟨y, h, s⟩) (y + h)) ∧
    (L ≠ [] → alikeP (Bd.rects ⟨y, h, s⟩) L → L.length ≤ (flatB B.reverse).length ∧ flatB (addB B y h s).reverse = (flatB B.reverse).take ((flatB B.reverse).length - L.length) ++ ((flatB B.reverse).drop ((flatB B.reverse).length - L.length)).map (growH h) ∧ LI (addB B y h s) L (y + h)) := by
  have hempty : s = [] → addB B y h s = B ∧ Bd.rects ⟨y, h, s⟩ = [] := fun e => by subst e; exact ⟨by unfold addB; rw [if_pos rfl], rfl⟩
  have hfar : ∀ b ∈ B, b.y + b.h < y + h := fun b hb => by have := hy b hb; omega
  rcases hL with ⟨rfl, hlt⟩ | ⟨c, B', rfl, hc, hal⟩
  · refine ⟨fun _ => ?_, fun h => absurd rfl h⟩
    by_cases h0 : s = []
    · rw [(hempty h0).1, (hempty h0).2, List.append_nil]
      exact ⟨rfl, .inl ⟨rfl, hfar⟩⟩
    · have e : addB B y h s = ⟨y, h, s⟩ :: B := by
        unfold addB
        rw [if_neg h0]
        cases B with
        | nil => rfl
        | cons c B' =>
          have := hlt c (List.mem_cons_self ..)
          simp only
          rw [if_neg (fun q => by omega)]
      rw [e]
      exact ⟨by rw [flatB_rev_cons], .inr ⟨_, _, rfl, rfl, rfl⟩⟩
  · have hok : c.ok := by rw [List.reverse_cons] at hB; exact hB.last.1
    have hll : L.length = c.rects.length := by have := congrArg List.length hal; simpa using this
    have hcr : c.rects.length = c.s.length := by simp [Bd.rects]
    have hiff : alikeP (Bd.rects ⟨y, h, s⟩) L ↔ s = c.s := by
      have e1 : c.rects = Bd.rects ⟨c.y, c.h, c.s⟩ := rfl
      rw [← rects_alike (y := y) (h := h) (y' := c.y) (h' := c.h), ← e1]
      unfold alikeP at hal ⊢
      rw [hal]
    refine ⟨fun hd => ?_, fun _ ha => ?_⟩
    · have hs : s ≠ c.s := by
        rcases hd with hd | hd
        · exfalso
          have := List.length_pos_iff.2 hok.ne
          rw [hd] at hll; simp at hll; omega
        · exact fun e => hd (hiff.2 e)
      by_cases h0 : s = []
      · rw [(hempty h0).1, (hempty h0).2, List.append_nil]
        exact ⟨rfl, .inl ⟨rfl, hfar⟩⟩
      · have e : addB (c :: B') y h s = ⟨y, h, s⟩ :: c :: B' := by
          unfold addB; rw [if_neg h0]; simp only
          rw [if_neg (fun q => hs q.2.symm)]
        rw [e]
        exact ⟨by rw [flatB_rev_cons], .inr ⟨_, _, rfl, rfl, rfl⟩⟩
    · have hs := hiff.1 ha
      subst hs
      have e : addB (c :: B') y h c.s = ⟨c.y, c.h + h, c.s⟩ :: B' := by
        unfold addB; rw [if_neg hok.ne]; simp only
        rw [if_pos (by simp [hc])]
      rw [e, flatB_rev_cons, flatB_rev_cons, List.length_append, ← hll, Nat.add_sub_cancel, List.take_left, List.drop_left]
      refine ⟨by omega, ?_, .inr ⟨_, _, rfl, by simp only; omega, ?_⟩⟩
      · congr 1
        unfold Bd.rects growH
        rw [List.map_map]
        rfl
      · unfold alikeP at hal ⊢
        rw [hal]
        unfold Bd.rects
        rw [List.map_map, List.map_map]
        rfl
set_option maxRecDepth 100000 in
theorem rrects_c0 (l : List RC) (h : Heap) (hl : l.length ≤ 30000) (ok : ∀ r ∈ l, r.ok) : ACalls Try.prog 26 [.ro 4 (l.map RC.enc)] h (fun r h' => ∃ v, r = .val v ∧ h' = .own v 4 ((rectsF l).map RC.enc) 43 :: h) := by
  refine ACalls.intro Try.func26 rfl Try.ntmps26 Try.results26 (Nat.le_of_ble_eq_true rfl) ?_
  (repeat' (first | (refine iS ?_; refine iMu ?_; refine S.mapU ?_) | refine svz ⟨fun b hq => ?_⟩ | refine sv1 ?_ | refine svs ⟨?_⟩ | refine svu ⟨fun u => ?_⟩ | (refine svg (fun hg => ?_) (fun hg => ?_) <;> try (exfalso; first | omega | contradiction)) | (refine svc (fun hc => ?_) (fun hc => ?_) <;> try (exfalso; first | omega | contradiction)) | refine sv2 ?_ | refine svh (fun hb => ?_) (fun hb => ?_) | refine svb (fun b => ?_) | refine sva ?_ | refine sv3 ?_))
  refine S.call ?_; refine (redges_c l _ (by omega) ok).mono ?_; rintro r h' ⟨rfl, hh⟩; subst hh
  (repeat' (first | (refine iS ?_; refine iMu ?_; refine S.mapU ?_) | refine svz ⟨fun b hq => ?_⟩ | refine sv1 ?_ | refine svs ⟨?_⟩ | refine svu ⟨fun u => ?_⟩ | (refine svg (fun hg => ?_) (fun hg => ?_) <;> try (exfalso; first | omega | contradiction)) | (refine svc (fun hc => ?_) (fun hc => ?_) <;> try (exfalso; first | omega | contradiction)) | refine sv2 ?_ | refine svh (fun hb => ?_) (fun hb => ?_) | refine svb (fun b => ?_) | refine sva ?_ | refine sv3 ?_))
  have lx := len_xsF l.reverse
  have ly := len_ysF l.reverse
  have ux := up_xsF l.reverse
  have uy := up_ysF l.reverse
  have mx := xsF_inM l.reverse
  have my := ysF_inM l.reverse
  have hfold : rectsF l = flatB (bnd (ysF l.reverse) (rowR l) ((ysF l.reverse).length - 1)).reverse := rfl
  have hrow : ∀ y, rowR l y = cellS l (xsF l.reverse) y ((xsF l.reverse).length - 1) := fun _ => rfl
  rw [List.length_reverse] at lx ly
  refine W.nil_ 4 43 ?_
  rw [hfold]
  generalize xsF l.reverse = X at *
  generalize ysF l.reverse = Y at *
  refine W.loop (J := fun q : Nat × List RC × Value => ⟨83, [(7, .val (.int .i64 (q.1 : Int))), (6, .ro 4 (q.2.1.map RC.enc)), (5, .val q.2.2), (4, .ro 1 (ints .i64 Y)), (3, .ro 1 (ints .i64 X)), (0, .ro 4 (l.map RC.enc))], .own q.2.2 4 ((flatB (bnd Y (rowR l) q.1).reverse).map RC.enc) 43 :: h'⟩)
    (Φ := fun q => q.1 ≤ Y.length - 1 ∧ (q.1 < Y.length → LI (bnd Y (rowR l) q.1) q.2.1 (Y.getD q.1 0)) ∧ q.2.1.length ≤ 60000) (μ := fun q => Y.length - q.1) (0, [], .slice none 0 0) lee ⟨Nat.zero_le _, fun _ => .inl ⟨rfl, fun c hc => (by cases hc)⟩, Nat.zero_le _⟩ ?_
  rintro ⟨i, L, v⟩ ⟨hi, hLI, hLl⟩
  dsimp only at hi hLI hLl ⊢
  have hol : (flatB (bnd Y (rowR l) i).reverse).length ≤ 60000 * 60000 := Nat.le_trans (bnd_len (N := 60000) (fun y => Nat.le_trans (rowR_len l y) (by omega)) i) (Nat.mul_le_mul_right _ (by omega))
  rcases Nat.lt_or_ge (i + 1) Y.length with hlt | hge
  · obtain ⟨y, hy⟩ : ∃ y, Y[i]? = some y := ⟨_, List.getElem?_eq_getElem (by omega)⟩
    obtain ⟨z, hz⟩ : ∃ z, Y[((i : Int) + 1).toNat]? = some z := ⟨_, List.getElem?_eq_getElem (by omega)⟩
    have hz2 : Y[i + 1]? = some z := by rw [show i + 1 = ((i : Int) + 1).toNat by omega]; exact hz
    have hyd : Y.getD i 0 = y := by rw [List.getD_eq_getElem?_getD, hy]; rfl
    have hzd : Y.getD (i + 1) 0 = z := by rw [List.getD_eq_getElem?_getD, hz2]; rfl
    have hyz : y < z := by have := up_getD uy hlt; omega
    obtain ⟨hyM1, hyM2⟩ := my y (List.mem_of_getElem? hy)
    obtain ⟨hzM1, hzM2⟩ := my z (List.mem_of_getElem? hz)
    obtain ⟨hB1, hB2, _⟩ := bnd_spec (ys := Y) (f := rowR l) uy (fun y _ => rowR_can l y) i (by omega)
    have hcn : ∀ r ∈ flatB (bnd Y (rowR l) i).reverse, r.cnt := flatB_cnt fun b hb => by
      rw [List.mem_reverse] at hb
      obtain ⟨g1, y', g2, g3⟩ := bnd_mem i (by omega) b hb
      refine ⟨canB_ok hB1 b (by rwa [List.mem_reverse]), (my _ g1).1, ?_, by rw [g3]; exact rowR_inM l y'⟩
      have := hB2 b hb
      omega
    rw [hyd] at hB2
    have hLI := hLI (by omega)
    rw [hyd] at hLI
    obtain ⟨rr1, rr2⟩ := rround (s := rowR l y) hB1 hB2 (show 0 < z - y by omega) hLI
    have hbs : bnd Y (rowR l) (i + 1) = addB (bnd Y (rowR l) i) y (z - y) (rowR l y) := by show addB _ _ _ _ = _; rw [hyd, hzd]
    rw [← hbs, show y + (z - y) = z by omega] at rr1 rr2
    have hrl := rowR_len l y
    have hnl : (Bd.rects ⟨y, z - y, rowR l y⟩).length ≤ 60000 := by unfold Bd.rects; rw [List.length_map]; show (rowR l y).length ≤ 60000; omega
    have hsp := fun h => rspans_c l X y (z - y) h (by omega) ok ux mx
    simp only [← hrow] at hsp
    generalize hO : flatB (bnd Y (rowR l) i).reverse = O at *
    generalize hNw : Bd.rects ⟨y, z - y, rowR l y⟩ = NW at *
    (repeat' (first | (refine iS ?_; refine iMu ?_; refine S.mapU ?_) | refine svz ⟨fun b hq => ?_⟩ | refine sv1 ?_ | refine svs ⟨?_⟩ | refine svu ⟨fun u => ?_⟩ | (refine svg (fun hg => ?_) (fun hg => ?_) <;> try (exfalso; first | omega | contradiction)) | (refine svc (fun hc => ?_) (fun hc => ?_) <;> try (exfalso; first | omega | contradiction)) | refine sv2 ?_ | refine svh (fun hb => ?_) (fun hb => ?_) | refine svb (fun b => ?_) | refine sva ?_ | refine sv3 ?_))
    refine R2.C (hsp _) ?_
    by_cases hL0 : 0 < L.length
    · have hLne : L ≠ [] := List.length_pos_iff.1 hL0
      (repeat' (first | (refine iS ?_; refine iMu ?_; refine S.mapU ?_) | refine svz ⟨fun b hq => ?_⟩ | refine sv1 ?_ | refine svs ⟨?_⟩ | refine svu ⟨fun u => ?_⟩ | (refine svg (fun hg => ?_) (fun hg => ?_) <;> try (exfalso; first | omega | contradiction)) | (refine svc (fun hc => ?_) (fun hc => ?_) <;> try (exfalso; first | omega | contradiction)) | refine sv2 ?_ | refine svh (fun hb => ?_) (fun hb => ?_) | refine svb (fun b => ?_) | refine sva ?_ | refine sv3 ?_))
      refine S.call ?_; refine (ralike_c NW L _).mono ?_; rintro r h' ⟨rfl, hh⟩; subst hh
      by_cases hal : alikeP NW L
      · rw [decide_eq_true hal]
        obtain ⟨q1, q2, q3⟩ := rr2 hLne hal
        generalize hab : O.length - L.length = ab at q2
        have hab1 : ab ≤ O.length := by omega
        (repeat' (first | (refine iS ?_; refine iMu ?_; refine S.mapU ?_) | refine svz ⟨fun b hq => ?_⟩ | refine sv1 ?_ | refine svs ⟨?_⟩ | refine svu ⟨fun u => ?_⟩ | (refine svg (fun hg => ?_) (fun hg => ?_) <;> try (exfalso; first | omega | contradiction)) | (refine svc (fun hc => ?_) (fun hc => ?_) <;> try (exfalso; first | omega | contradiction)) | refine sv2 ?_ | refine svh (fun hb => ?_) (fun hb => ?_) | refine svb (fun b => ?_) | refine sva ?_ | refine sv3 ?_))
        refine W.loop (J := fun q : Nat × List RC => ⟨83, [(9, .val (.int .i64 (q.1 : Int))), (7, .val (.int .i64 (i : Int))), (6, .ro 4 (L.map RC.enc)), (5, .val v), (4, .ro 1 (ints .i64 Y)), (3, .ro 1 (ints .i64 X)), (0, .ro 4 (l.map RC.enc))], .own v 4 (q.2.map RC.enc) 43 :: h'⟩)
          (Φ := fun q => ab ≤ q.1 ∧ q.1 ≤ O.length ∧ q.2 = grown O ab (z - y) q.1) (μ := fun q => O.length - q.1) (ab, O) (by rw [show ((ab : Nat) : Int) = (O.length : Int) - (L.length : Int) by omega]; exact lee) ⟨Nat.le_refl _, hab1, grown_start.symm⟩ ?_
        rintro ⟨j, M⟩ ⟨j1, j2, j3⟩
        dsimp only at j1 j2 j3 ⊢
        have hML : M.length = O.length := by rw [j3, grown_len j1 j2]
        rcases Nat.lt_or_ge j O.length with hjl | hjg
        · obtain ⟨r, hx⟩ : ∃ r, O[j]? = some r := ⟨_, List.getElem?_eq_getElem hjl⟩
          obtain ⟨k1, k2⟩ := grown_step (d := z - y) j1 hx
          have hMx : M[j]? = some r := by rw [j3]; exact k1
          have hMs : M.set j { r with h := r.h + z - y } = grown O ab (z - y) (j + 1) := by
            rw [j3, ← k2]; congr 1; unfold growH; congr 1; omega
          obtain ⟨_, ⟨c1, c2, c3⟩⟩ := hcn r (List.mem_of_getElem? hx)
          (repeat' (first | (refine iS ?_; refine iMu ?_; refine S.mapU ?_) | refine svz ⟨fun b hq => ?_⟩ | refine sv1 ?_ | refine svs ⟨?_⟩ | refine svu ⟨fun u => ?_⟩ | (refine svg (fun hg => ?_) (fun hg => ?_) <;> try (exfalso; first | omega | contradiction)) | (refine svc (fun hc => ?_) (fun hc => ?_) <;> try (exfalso; first | omega | contradiction)) | refine sv2 ?_ | refine svh (fun hb => ?_) (fun hb => ?_) | refine svb (fun b => ?_) | refine sva ?_ | refine sv3 ?_))
          exact ⟨(j + 1, M.set j { r with h := r.h + z - y }), ⟨by dsimp only; omega, hjl, hMs⟩, by dsimp only; rw [List.map_set]; exact lee, by dsimp only; omega⟩
        · have hjj : j = O.length := by omega
          subst hjj
          rw [grown_end, ← q2] at j3
          subst j3
          (repeat' (first | (refine iS ?_; refine iMu ?_; refine S.mapU ?_) | refine svz ⟨fun b hq => ?_⟩ | refine sv1 ?_ | refine svs ⟨?_⟩ | refine svu ⟨fun u => ?_⟩ | (refine svg (fun hg => ?_) (fun hg => ?_) <;> try (exfalso; first | omega | contradiction)) | (refine svc (fun hc => ?_) (fun hc => ?_) <;> try (exfalso; first | omega | contradiction)) | refine sv2 ?_ | refine svh (fun hb => ?_) (fun hb => ?_) | refine svb (fun b => ?_) | refine sva ?_ | refine sv3 ?_))
          exact ⟨(i + 1, L, v), ⟨by dsimp only; omega, fun _ => by dsimp only; rw [hzd]; exact q3, hLl⟩, lee, by dsimp only; omega⟩
      · rw [decide_eq_false hal]
        obtain ⟨q1, q2⟩ := rr1 (.inr hal)
        (repeat' (first | (refine iS ?_; refine iMu ?_; refine S.mapU ?_) | refine svz ⟨fun b hq => ?_⟩ | refine sv1 ?_ | refine svs ⟨?_⟩ | refine svu ⟨fun u => ?_⟩ | (refine svg (fun hg => ?_) (fun hg => ?_) <;> try (exfalso; first | omega | contradiction)) | (refine svc (fun hc => ?_) (fun hc => ?_) <;> try (exfalso; first | omega | contradiction)) | refine sv2 ?_ | refine svh (fun hb => ?_) (fun hb => ?_) | refine svb (fun b => ?_) | refine sva ?_ | refine sv3 ?_))
        exact ⟨(i + 1, NW, u), ⟨by dsimp only; omega, fun _ => by dsimp only; rw [hzd]; exact q2, hnl⟩, by dsimp only; rw [q1, List.map_append]; exact lee, by dsimp only; omega⟩
    · have hL : L = [] := List.eq_nil_of_length_eq_zero (by omega)
      obtain ⟨q1, q2⟩ := rr1 (.inl hL)
      (repeat' (first | (refine iS ?_; refine iMu ?_; refine S.mapU ?_) | refine svz ⟨fun b hq => ?_⟩ | refine sv1 ?_ | refine svs ⟨?_⟩ | refine svu ⟨fun u => ?_⟩ | (refine svg (fun hg => ?_) (fun hg => ?_) <;> try (exfalso; first | omega | contradiction)) | (refine svc (fun hc => ?_) (fun hc => ?_) <;> try (exfalso; first | omega | contradiction)) | refine sv2 ?_ | refine svh (fun hb => ?_) (fun hb => ?_) | refine svb (fun b => ?_) | refine sva ?_ | refine sv3 ?_))
      exact ⟨(i + 1, NW, u), ⟨by dsimp only; omega, fun _ => by dsimp only; rw [hzd]; exact q2, hnl⟩, by dsimp only; rw [q1, List.map_append]; exact lee, by dsimp only; omega⟩
  · have hie : i = Y.length - 1 := by omega
    subst hie
    (repeat' (first | (refine iS ?_; refine iMu ?_; refine S.mapU ?_) | refine svz ⟨fun b hq => ?_⟩ | refine sv1 ?_ | refine svs ⟨?_⟩ | refine svu ⟨fun u => ?_⟩ | (refine svg (fun hg => ?_) (fun hg => ?_) <;> try (exfalso; first | omega | contradiction)) | (refine svc (fun hc => ?_) (fun hc => ?_) <;> try (exfalso; first | omega | contradiction)) | refine sv2 ?_ | refine svh (fun hb => ?_) (fun hb => ?_) | refine svb (fun b => ?_) | refine sva ?_ | refine sv3 ?_))
    exact fin_r (h' := _) ⟨v, rfl, rfl⟩
theorem rrects_c (l : List RC) (h : Heap) (hl : l.length ≤ 30000) (ok : ∀ r ∈ l, r.ok) : ACalls Try.prog 26 [.ro 4 (l.map RC.enc)] h (fun r h' => r = .ro 4 ((rectsF l).map RC.enc) ∧ h' = h) := by
  refine (rrects_c0 l h hl ok).frz ?_
  rintro r h' ⟨v, rfl, rfl⟩
  exact ⟨v, 4, _, _, _, h, .here, .hit, rfl, rfl⟩
end Go.Proofs.Ytdknjjgmmmmfjaa
