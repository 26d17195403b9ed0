import Derived.Test.YtmfbfbhkjclhkaaC2
import Derived.Test.YtmfbfbhkjclhkaaC6
import Derived.Test.YtmfbfbhkjclhkaaN4
import Derived.Test.YtmfbfbhkjclhkaaB4
/- How many lines a region of some rectangles has, in plain words. No condition. -/
namespace Go.Proofs.Ytmfbfbhkjclhkaa
open Go Go.VM
set_option linter.unusedVariables false
set_option linter.unusedSimpArgs false
theorem addB_end {B : List Bd} {y h : Int} {s : List (Int × Int)} {ys : List Int} (hB : ∀ b ∈ B, b.y + b.h ∈ ys) (hy : y + h ∈ ys) : ∀ b ∈ addB B y h s, b.y + b.h ∈ ys := fun b hb => by
  unfold addB at hb
  split at hb
  · exact hB b hb
  · cases B with
    | nil =>
      have : b = ⟨y, h, s⟩ := by simpa using hb
      subst this; exact hy
    | cons c B =>
      simp only at hb
      split at hb
      · rename_i hm
        rcases List.mem_cons.1 hb with rfl | hb
        · dsimp only; rw [← Int.add_assoc, hm.1]; exact hy
        · exact hB b (List.mem_cons_of_mem _ hb)
      · rcases List.mem_cons.1 hb with rfl | hb
        · exact hy
        · exact hB b hb
theorem bnd_end {ys : List Int} {f : Int → List (Int × Int)} : ∀ i, i < ys.length → ∀ b ∈ bnd ys f i, b.y + b.h ∈ ys
  | 0, _, b, hb => by cases hb
  | i + 1, hi, b, hb => addB_end (bnd_end i (by omega)) (by rw [show ys.getD i 0 + (ys.getD (i + 1) 0 - ys.getD i 0) = ys.getD (i + 1) 0 by omega]; exact getD_mem (by omega)) b hb
theorem spGo_in {X : List Int} : ∀ (l : List RC) (f t : Int), (∀ r ∈ l, r.x ∈ X ∧ r.x + r.w ∈ X) → f ∈ X → t ∈ X → ∀ p ∈ spGo f t l, p.1 ∈ X ∧ p.2 ∈ X
  | [], f, t, _, hf, ht, p, hp => by
    have : p = (f, t) := by simpa [spGo] using hp
    subst this; exact ⟨hf, ht⟩
  | r :: l, f, t, h, hf, ht, p, hp => by
    have hr := h r (List.mem_cons_self ..)
    have hl : ∀ r ∈ l, r.x ∈ X ∧ r.x + r.w ∈ X := fun q hq => h q (List.mem_cons_of_mem _ hq)
    unfold spGo at hp
    split at hp
    · refine spGo_in l f _ hl hf ?_ p hp
      rcases (by omega : max t (r.x + r.w) = t ∨ max t (r.x + r.w) = r.x + r.w) with e | e
      · rw [e]; exact ht
      · rw [e]; exact hr.2
    · rcases List.mem_cons.1 hp with rfl | hp
      · exact ⟨hf, ht⟩
      · exact spGo_in l _ _ hl hr.1 hr.2 p hp
theorem spF_in {X : List Int} {l : List RC} (h : ∀ r ∈ l, r.x ∈ X ∧ r.x + r.w ∈ X) : ∀ p ∈ spF l, p.1 ∈ X ∧ p.2 ∈ X := by
  cases l with
  | nil => intro p hp; cases hp
  | cons r l => exact spGo_in l _ _ (fun q hq => h q (List.mem_cons_of_mem _ hq)) (h r (List.mem_cons_self ..)).1 (h r (List.mem_cons_self ..)).2
/-- A region's lines are those of its rectangles. -/
theorem ofF_lines {L : List RC} {r : RC} (h : r ∈ ofF L) : (r.y ∈ ends L ∧ r.y + r.h ∈ ends L) ∧ r.x ∈ xends L ∧ r.x + r.w ∈ xends L := by
  unfold ofF at h
  obtain ⟨b, hb, p, hp, rfl⟩ := mem_flatB.1 h
  unfold bandsF at hb
  rw [List.mem_reverse] at hb
  have hne : 0 < (edF (cntL L)).length := by
    rcases Nat.eq_zero_or_pos (edF (cntL L)).length with e | e
    · rw [e] at hb; cases hb
    · exact e
  have hi : (edF (cntL L)).length - 1 < (edF (cntL L)).length := by omega
  have sub : ∀ y ∈ edF (cntL L), y ∈ ends L := fun y hy => by
    obtain ⟨q, hq, e⟩ := mem_edF.1 hy
    unfold ends
    exact List.mem_flatMap.2 ⟨q, (List.mem_filter.1 hq).1, by rcases e with e | e <;> simp [e]⟩
  obtain ⟨m1, y0, hy0, m2⟩ := bnd_mem _ hi b hb
  have m3 := bnd_end _ hi b hb
  rw [m2] at hp
  have hx := spF_in (X := xends L) (l := srtX ((cntL L).filter (cross y0))) (fun q hq => by
    have hq := (List.mem_filter.1 (((srtX_perm _).mem_iff).1 hq)).1
    have hq := (List.mem_filter.1 hq).1
    unfold xends
    exact ⟨List.mem_flatMap.2 ⟨q, hq, by simp⟩, List.mem_flatMap.2 ⟨q, hq, by simp⟩⟩) p hp
  dsimp only
  exact ⟨⟨sub _ m1, sub _ m3⟩, hx.1, by rw [show p.1 + (p.2 - p.1) = p.2 by omega]; exact hx.2⟩
/-- A region of few rectangles and one more. -/
theorem jok_few {L : List RC} {B : List RC} (hL : L.length ≤ 256) (hB : Can B) (h1 : B.length ≤ 1) : JOk (ofF L) B := by
  have hl := ofF_len L
  have hm : 2 * L.length * L.length ≤ 2 * 256 * 256 := Nat.mul_le_mul (by omega) hL
  have l1 := len_ends L
  have l2 := len_ends B
  have l3 := len_xends L
  have l4 := len_xends B
  refine ⟨can_of _, hB, by omega, by omega, ?_, fun y => ?_⟩
  · have : (ysJ (ofF L) B).length ≤ (ends L ++ ends B).length := up_lenS (up_ddF (srt_sorted _)) fun y hy => by
      obtain ⟨r, hr, e⟩ := mem_ysJ.1 hy
      rcases List.mem_append.1 hr with g | g
      · have := ofF_lines g
        exact List.mem_append_left _ (by rcases e with rfl | rfl; exact this.1.1; exact this.1.2)
      · exact List.mem_append_right _ (List.mem_flatMap.2 ⟨r, g, by rcases e with e | e <;> simp [e]⟩)
    rw [List.length_append] at this
    omega
  · have : (xsJ (ofF L) B y).length ≤ (xends L ++ xends B).length := up_lenS (up_ddF (srt_sorted _)) fun x hx => by
      obtain ⟨r, hr, _, e⟩ := mem_xsJ.1 hx
      rcases List.mem_append.1 hr with g | g
      · have := ofF_lines g
        exact List.mem_append_left _ (by rcases e with rfl | rfl; exact this.2.1; exact this.2.2)
      · exact List.mem_append_right _ (List.mem_flatMap.2 ⟨r, g, by rcases e with e | e <;> simp [e]⟩)
    rw [List.length_append] at this
    omega
end Go.Proofs.Ytmfbfbhkjclhkaa

/- Pens: twin, Same. No condition. -/
namespace Go.Proofs.Ytmfbfbhkjclhkaa
open Go Go.VM
attribute [local irreducible] PurV Pur Step RL W D ACalls Then InBlock Fini
set_option linter.unusedVariables false
set_option linter.unusedSimpArgs false
set_option maxHeartbeats 20000000
deriving instance DecidableEq for PN
set_option maxRecDepth 100000 in
theorem twin_c (p : PN) (h : Heap) (hl : p.clip.length ≤ 300) : ACalls Try.prog 31 [p.enc] h (fun r h' => r = p.enc ∧ h' = h) := by
  have cl := fun h => clone_c p.clip h (by omega)
  rw [pn_enc]
  refine ACalls.intro Try.func31 rfl Try.ntmps31 Try.results31 (Nat.le_of_ble_eq_true rfl) ?_
  (repeat' (first | (refine iS ?_; refine iMu ?_; refine S.mapU ?_) | refine svz ⟨fun b hq => ?_⟩ | refine sv1 ?_ | refine svs ⟨?_⟩ | refine svu ⟨fun u => ?_⟩ | (refine svg (fun hg => ?_) (fun hg => ?_) <;> try (exfalso; first | omega | contradiction)) | (refine svc (fun hc => ?_) (fun hc => ?_) <;> try (exfalso; first | omega | contradiction)) | refine sv2 ?_ | refine svh (fun hb => ?_) (fun hb => ?_) | refine svb (fun b => ?_) | refine sva ?_ | refine sv3 ?_))
  refine S.call ?_; refine (cl _).mono ?_; rintro r h' ⟨rfl, hh⟩; subst hh
  (repeat' (first | (refine iS ?_; refine iMu ?_; refine S.mapU ?_) | refine svz ⟨fun b hq => ?_⟩ | refine sv1 ?_ | refine svs ⟨?_⟩ | refine svu ⟨fun u => ?_⟩ | (refine svg (fun hg => ?_) (fun hg => ?_) <;> try (exfalso; first | omega | contradiction)) | (refine svc (fun hc => ?_) (fun hc => ?_) <;> try (exfalso; first | omega | contradiction)) | refine sv2 ?_ | refine svh (fun hb => ?_) (fun hb => ?_) | refine svb (fun b => ?_) | refine sva ?_ | refine sv3 ?_))
  exact fin_r (h' := h) ⟨rfl, rfl⟩
set_option maxRecDepth 100000 in
theorem psame_c (p q : PN) (h : Heap) (hl : p.clip.length ≤ 300) (hl2 : q.clip.length ≤ 300) : ACalls Try.prog 27 [p.enc, q.enc] h (fun r h' => r = .val (.bool (decide (p = q))) ∧ h' = h) := by
  have eq := fun h => equal_c p.clip q.clip h
  rw [pn_enc, pn_enc]
  obtain ⟨fn, pl, fo, ba, ft, x, y, c, l⟩ := p
  obtain ⟨fn', pl', fo', ba', ft', x', y', c', l'⟩ := q
  dsimp only at *
  by_cases he : (fn = fn' ∧ pl = pl' ∧ fo = fo' ∧ ba = ba' ∧ ft = ft' ∧ x = x' ∧ y = y' ∧ c = c')
  · obtain ⟨rfl, rfl, rfl, rfl, rfl, rfl, rfl, rfl⟩ := he
    rw [show decide ((⟨fn, pl, fo, ba, ft, x, y, c, l⟩ : PN) = ⟨fn, pl, fo, ba, ft, x, y, c, l'⟩) = decide (l = l') from decide_eq_decide.2 ⟨fun e => by injection e, fun e => by rw [e]⟩]
    refine ACalls.intro Try.func27 rfl Try.ntmps27 Try.results27 (Nat.le_of_ble_eq_true rfl) ?_
    (repeat' (first | (refine iS ?_; refine iMu ?_; refine S.mapU ?_) | refine svz ⟨fun b hq => ?_⟩ | refine sv1 ?_ | refine svs ⟨?_⟩ | refine svu ⟨fun u => ?_⟩ | (refine svg (fun hg => ?_) (fun hg => ?_) <;> try (exfalso; first | omega | contradiction)) | (refine svc (fun hc => ?_) (fun hc => ?_) <;> try (exfalso; first | omega | contradiction)) | refine sv2 ?_ | refine svh (fun hb => ?_) (fun hb => ?_) | refine svb (fun b => ?_) | refine sva ?_ | refine sv3 ?_))
    refine S.call ?_; refine (eq _).mono ?_; rintro r h' ⟨rfl, hh⟩; subst hh
    (repeat' (first | (refine iS ?_; refine iMu ?_; refine S.mapU ?_) | refine svz ⟨fun b hq => ?_⟩ | refine sv1 ?_ | refine svs ⟨?_⟩ | refine svu ⟨fun u => ?_⟩ | (refine svg (fun hg => ?_) (fun hg => ?_) <;> try (exfalso; first | omega | contradiction)) | (refine svc (fun hc => ?_) (fun hc => ?_) <;> try (exfalso; first | omega | contradiction)) | refine sv2 ?_ | refine svh (fun hb => ?_) (fun hb => ?_) | refine svb (fun b => ?_) | refine sva ?_ | refine sv3 ?_))
    exact fin_r (h' := h) ⟨rfl, rfl⟩
  · rw [decide_eq_false (fun e => he (by injection e with a1 a2 a3 a4 a5 a6 a7 a8; exact ⟨a1, a2, a3, a4, a5, a6, a7, a8⟩))]
    refine ACalls.intro Try.func27 rfl Try.ntmps27 Try.results27 (Nat.le_of_ble_eq_true rfl) ?_
    (repeat' (first | (refine iS ?_; refine iMu ?_; refine S.mapU ?_) | refine svz ⟨fun b hq => ?_⟩ | refine sv1 ?_ | refine svs ⟨?_⟩ | refine svu ⟨fun u => ?_⟩ | (refine svg (fun hg => ?_) (fun hg => ?_) <;> try (exfalso; first | omega | contradiction)) | (refine svc (fun hc => ?_) (fun hc => ?_) <;> try (exfalso; first | omega | contradiction)) | refine sv2 ?_ | refine svh (fun hb => ?_) (fun hb => ?_) | refine svb (fun b => ?_) | refine sva ?_ | refine sv3 ?_))
    all_goals first | exact fin_r (h' := h) ⟨rfl, rfl⟩ | exact absurd ⟨by assumption, by assumption, by assumption, by assumption, by assumption, by assumption, by assumption, by assumption⟩ he
set_option maxRecDepth 100000 in
theorem rpsame_c (p q : PN) (h : Heap) (hl : p.clip.length ≤ 300) (hl2 : q.clip.length ≤ 300) : ACalls Try.prog 15 [p.enc, q.enc] h (fun r h' => r = .val (.bool (decide (p = q))) ∧ h' = h) := by
  rw [pn_enc, pn_enc]
  obtain ⟨fn, pl, fo, ba, ft, x, y, c, l⟩ := p
  obtain ⟨fn', pl', fo', ba', ft', x', y', c', l'⟩ := q
  dsimp only at *
  by_cases he : (fn = fn' ∧ pl = pl' ∧ fo = fo' ∧ ba = ba' ∧ ft = ft' ∧ x = x' ∧ y = y' ∧ c = c')
  · obtain ⟨rfl, rfl, rfl, rfl, rfl, rfl, rfl, rfl⟩ := he
    rw [show decide ((⟨fn, pl, fo, ba, ft, x, y, c, l⟩ : PN) = ⟨fn, pl, fo, ba, ft, x, y, c, l'⟩) = decide (l = l') from decide_eq_decide.2 ⟨fun e => by injection e, fun e => by rw [e]⟩]
    by_cases hll : l.length = l'.length
    · refine ACalls.intro Try.func15 rfl Try.ntmps15 Try.results15 (Nat.le_of_ble_eq_true rfl) ?_
      (repeat' (first | (refine iS ?_; refine iMu ?_; refine S.mapU ?_) | refine svz ⟨fun b hq => ?_⟩ | refine sv1 ?_ | refine svs ⟨?_⟩ | refine svu ⟨fun u => ?_⟩ | (refine svg (fun hg => ?_) (fun hg => ?_) <;> try (exfalso; first | omega | contradiction)) | (refine svc (fun hc => ?_) (fun hc => ?_) <;> try (exfalso; first | omega | contradiction)) | refine sv2 ?_ | refine svh (fun hb => ?_) (fun hb => ?_) | refine svb (fun b => ?_)))
      rename_i b2
      revert b; intro b3
      (repeat' (first | (refine iS ?_; refine iMu ?_; refine S.mapU ?_) | refine svz ⟨fun b hq => ?_⟩ | refine sv1 ?_ | refine svs ⟨?_⟩ | refine svu ⟨fun u => ?_⟩ | (refine svg (fun hg => ?_) (fun hg => ?_) <;> try (exfalso; first | omega | contradiction)) | (refine svc (fun hc => ?_) (fun hc => ?_) <;> try (exfalso; first | omega | contradiction)) | refine sv2 ?_ | refine svh (fun hb => ?_) (fun hb => ?_) | refine svb (fun b => ?_) | refine sva ?_ | refine sv3 ?_))
      refine W.loop (J := fun k : Nat => ⟨87, [(5, .val (.int .i64 (k))), (4, .val (.bool false)), (3, .val (.pointer (some ⟨b3, 0, none⟩))), (2, .val (.pointer (some ⟨b2, 0, none⟩)))], .box b3 [.val (.int .i64 (fn)), .val (.int .u8 (pl)), .val (.int .u8 (fo)), .val (.int .u8 (ba)), .val (.int .u32 ft), .val (.int .i64 (x)), .val (.int .i64 (y)), .val (.bool c), .ro 4 (l'.map RC.enc)] 34 :: .box b2 [.val (.int .i64 (fn)), .val (.int .u8 (pl)), .val (.int .u8 (fo)), .val (.int .u8 (ba)), .val (.int .u32 ft), .val (.int .i64 (x)), .val (.int .i64 (y)), .val (.bool c), .ro 4 (l.map RC.enc)] 34 :: h⟩)
        (Φ := fun k => k ≤ l.length ∧ l.take k = l'.take k) (μ := fun k => l.length - k) 0 lee ⟨Nat.zero_le _, rfl⟩ ?_
      rintro k ⟨hk, he⟩
      rcases Nat.lt_or_ge k l.length with hlt | hge
      · have hltb : k < l'.length := by omega
        have hx : l[k]? = some l[k] := List.getElem?_eq_getElem hlt
        have hy : l'[k]? = some l'[k] := List.getElem?_eq_getElem hltb
        generalize hr : l[k] = r at *
        generalize hs : l'[k] = s at *
        (repeat' (first | (refine iS ?_; refine iMu ?_; refine S.mapU ?_) | refine svz ⟨fun b hq => ?_⟩ | refine sv1 ?_ | refine svs ⟨?_⟩ | refine svu ⟨fun u => ?_⟩ | (refine svg (fun hg => ?_) (fun hg => ?_) <;> try (exfalso; first | omega | contradiction)) | (refine svc (fun hc => ?_) (fun hc => ?_) <;> try (exfalso; first | omega | contradiction)) | refine sv2 ?_ | refine svh (fun hb => ?_) (fun hb => ?_) | refine svb (fun b => ?_) | refine sva ?_ | refine sv3 ?_))
        refine R2.T (v := .val (.bool (decide (¬ r = s)))) ?_ (hp := .vo rfl (pur_neqs (p := r = s) rfl rfl (by repeat (first | exact IEq.nil | apply IEq.cons)) rfl (RC.eq4 r s)))
        by_cases hrs : r = s
        · (repeat' (first | (refine iS ?_; refine iMu ?_; refine S.mapU ?_) | refine svz ⟨fun b hq => ?_⟩ | refine sv1 ?_ | refine svs ⟨?_⟩ | refine svu ⟨fun u => ?_⟩ | (refine svg (fun hg => ?_) (fun hg => ?_) <;> try (exfalso; first | omega | contradiction)) | (refine svc (fun hc => ?_) (fun hc => ?_) <;> try (exfalso; first | omega | contradiction)) | refine sv2 ?_ | refine svh (fun hb => ?_) (fun hb => ?_) | refine svb (fun b => ?_) | refine sva ?_ | refine sv3 ?_))
          refine ⟨k + 1, ⟨hlt, ?_⟩, lee, by omega⟩
          rw [List.take_add_one, List.take_add_one, he, hx, hy, hrs]
        · have hne : l ≠ l' := fun e => hrs (by subst e; rw [hx] at hy; injection hy)
          rw [decide_eq_false hne]
          (repeat' (first | (refine iS ?_; refine iMu ?_; refine S.mapU ?_) | refine svz ⟨fun b hq => ?_⟩ | refine sv1 ?_ | refine svs ⟨?_⟩ | refine svu ⟨fun u => ?_⟩ | (refine svg (fun hg => ?_) (fun hg => ?_) <;> try (exfalso; first | omega | contradiction)) | (refine svc (fun hc => ?_) (fun hc => ?_) <;> try (exfalso; first | omega | contradiction)) | refine sv2 ?_ | refine svh (fun hb => ?_) (fun hb => ?_) | refine svb (fun b => ?_) | refine sva ?_ | refine sv3 ?_))
          exact fin_r (h' := _) ⟨rfl, rfl⟩
      · have e : l = l' := by rw [List.take_of_length_le hge, List.take_of_length_le (by omega)] at he; exact he
        rw [decide_eq_true e]
        (repeat' (first | (refine iS ?_; refine iMu ?_; refine S.mapU ?_) | refine svz ⟨fun b hq => ?_⟩ | refine sv1 ?_ | refine svs ⟨?_⟩ | refine svu ⟨fun u => ?_⟩ | (refine svg (fun hg => ?_) (fun hg => ?_) <;> try (exfalso; first | omega | contradiction)) | (refine svc (fun hc => ?_) (fun hc => ?_) <;> try (exfalso; first | omega | contradiction)) | refine sv2 ?_ | refine svh (fun hb => ?_) (fun hb => ?_) | refine svb (fun b => ?_) | refine sva ?_ | refine sv3 ?_))
        exact fin_r (h' := _) ⟨rfl, rfl⟩
    · have hne : l ≠ l' := fun e => hll (by rw [e])
      rw [decide_eq_false hne]
      refine ACalls.intro Try.func15 rfl Try.ntmps15 Try.results15 (Nat.le_of_ble_eq_true rfl) ?_
      (repeat' (first | (refine iS ?_; refine iMu ?_; refine S.mapU ?_) | refine svz ⟨fun b hq => ?_⟩ | refine sv1 ?_ | refine svs ⟨?_⟩ | refine svu ⟨fun u => ?_⟩ | (refine svg (fun hg => ?_) (fun hg => ?_) <;> try (exfalso; first | omega | contradiction)) | (refine svc (fun hc => ?_) (fun hc => ?_) <;> try (exfalso; first | omega | contradiction)) | refine sv2 ?_ | refine svh (fun hb => ?_) (fun hb => ?_) | refine svb (fun b => ?_) | refine sva ?_ | refine sv3 ?_))
      exact fin_r (h' := h) ⟨rfl, rfl⟩
  · rw [decide_eq_false (fun e => he (by injection e with a1 a2 a3 a4 a5 a6 a7 a8; exact ⟨a1, a2, a3, a4, a5, a6, a7, a8⟩))]
    refine ACalls.intro Try.func15 rfl Try.ntmps15 Try.results15 (Nat.le_of_ble_eq_true rfl) ?_
    (repeat' (first | (refine iS ?_; refine iMu ?_; refine S.mapU ?_) | refine svz ⟨fun b hq => ?_⟩ | refine sv1 ?_ | refine svs ⟨?_⟩ | refine svu ⟨fun u => ?_⟩ | (refine svg (fun hg => ?_) (fun hg => ?_) <;> try (exfalso; first | omega | contradiction)) | (refine svc (fun hc => ?_) (fun hc => ?_) <;> try (exfalso; first | omega | contradiction)) | refine sv2 ?_ | refine svh (fun hb => ?_) (fun hb => ?_) | refine svb (fun b => ?_) | refine sva ?_ | refine sv3 ?_))
    all_goals first | exact fin_r (h' := h) ⟨rfl, rfl⟩ | exact absurd ⟨Decidable.of_not_not (by assumption), Decidable.of_not_not (by assumption), Decidable.of_not_not (by assumption), Decidable.of_not_not (by assumption), Decidable.of_not_not (by assumption), Decidable.of_not_not (by assumption), Decidable.of_not_not (by assumption), Decidable.of_not_not (by assumption)⟩ he
end Go.Proofs.Ytmfbfbhkjclhkaa
