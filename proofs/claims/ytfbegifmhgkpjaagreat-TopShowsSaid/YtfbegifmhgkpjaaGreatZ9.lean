/- Grids: spans, Fill, Lay. No condition. -/
import Derived.Test.YtfbegifmhgkpjaaGreatZ5
import Derived.Test.YtfbegifmhgkpjaaGreatC6
import Derived.Test.YtfbegifmhgkpjaaGreatU4
namespace Go.Proofs.YtfbegifmhgkpjaaGreat
open Go Go.VM
attribute [local irreducible] PurV Pur Step RL W D ACalls Then InBlock Fini
set_option linter.unusedVariables false
set_option linter.unusedSimpArgs false
set_option maxHeartbeats 20000000
def covR (Q : Int → Int → Bool) (r : RC) (y : Int) (g : Int → Int → Bool) : Int → Int → Bool := fun c d => (Q c d || (decide (r.has c d) && decide (d < y))) && g c d
theorem covR_step {w h a z y : Nat} {r : RC} {Q g : Int → Int → Bool} {f : Int → Int → Int} {p : List Int} (hp : p.length = w * h) (ha : (a : Int) = max r.x 0) (hz : (z : Int) = min (r.x + r.w) w) (hy0 : r.y ≤ y) (hy : (y : Int) < r.y + r.h) :
    mixG w (rowD y a z g) f (mixG w (covR Q r y g) f p) = mixG w (covR Q r ((y : Int) + 1) g) f p := by
  rw [mixG_comp]
  refine mixG_congr hp (fun c d hc hd => ?_) (fun _ _ _ _ _ => rfl)
  unfold covR rowD
  cases g c d with
  | false => simp
  | true =>
    rw [Bool.and_true, Bool.and_true, Bool.and_true, Bool.or_assoc]
    congr 1
    rw [← Bool.decide_and, ← Bool.decide_and, ← Bool.decide_and, ← Bool.decide_or]
    refine decide_eq_decide.2 ?_
    unfold RC.has
    omega
theorem covR_end {w h i y : Nat} {r : RC} {L : List RC} {g : Int → Int → Bool} {f : Int → Int → Int} {p : List Int} (hp : p.length = w * h) (hr : L[i]? = some r) (he : r.y + r.h ≤ y ∨ h ≤ y) :
    mixG w (covR (hasR (L.take i)) r y g) f p = mixG w (fun c d => hasR (L.take (i + 1)) c d && g c d) f p := by
  refine mixG_congr hp (fun c d hc hd => ?_) (fun _ _ _ _ _ => rfl)
  unfold covR
  rw [List.take_add_one, hr, Option.toList_some, hasR_append]
  congr 2
  unfold hasR
  rw [List.any_cons, List.any_nil, Bool.or_false, ← Bool.decide_and]
  refine decide_eq_decide.2 ?_
  unfold RC.has
  omega
theorem covR_start {w h i y : Nat} {r : RC} {L : List RC} {g : Int → Int → Bool} {f : Int → Int → Int} {p : List Int} (hp : p.length = w * h) (hy : (y : Int) = max r.y 0) :
    mixG w (fun c d => hasR (L.take i) c d && g c d) f p = mixG w (covR (hasR (L.take i)) r y g) f p := by
  refine mixG_congr hp (fun c d hc hd => ?_) (fun _ _ _ _ _ => rfl)
  unfold covR
  rw [show (decide (r.has c d) && decide ((d : Int) < y)) = false by
    rw [← Bool.decide_and]; refine decide_eq_false ?_; unfold RC.has; omega, Bool.or_false]
theorem covR_skip {w h i : Nat} {r : RC} {L : List RC} {g : Int → Int → Bool} {f : Int → Int → Int} {p : List Int} (hp : p.length = w * h) (hr : L[i]? = some r) (he : min (r.x + r.w) w ≤ max r.x 0) :
    mixG w (fun c d => hasR (L.take i) c d && g c d) f p = mixG w (fun c d => hasR (L.take (i + 1)) c d && g c d) f p := by
  refine mixG_congr hp (fun c d hc hd => ?_) (fun _ _ _ _ _ => rfl)
  rw [List.take_add_one, hr, Option.toList_some, hasR_append]
  congr 1
  unfold hasR
  rw [List.any_cons, List.any_nil, Bool.or_false, show decide (r.has c d) = false from decide_eq_false (by unfold RC.has; omega), Bool.or_false]
set_option maxRecDepth 100000 in
theorem gspans_c (A : List RC) (w h : Nat) (v : Value) (p : List Int) (g : Int → Int → Bool) (f : Int → Int → Int) {fv : AV} {fn : Nat} {caps : List AV} [TFun Tryz.prog fn] (hF : Fv fv fn caps) (H : Heap) (hp : p.length = w * h) (hw : w ≤ 128) (hh : h ≤ 128)
    (hA : Can A) (hl : A.length ≤ 1000000)
    (hcb : ∀ (y a z : Nat) (q : List Int), q.length = w * h → y < h → a ≤ z → z ≤ w → ACalls Tryz.prog fn ([.val (.int .i64 ((y : Int))), .val (.int .i64 ((a : Int))), .val (.int .i64 ((z : Int)))] ++ caps) (.own v 1 (ints .u8 (q)) 53 :: H) (fun r h' => r = .tup [] ∧ h' = .own v 1 (ints .u8 (mixG w (rowD y a z g) f q)) 53 :: H)) :
    ACalls Tryz.prog 94 [.agg [.val (.int .i64 ((w : Int))), .val (.int .i64 ((h : Int))), .val v], regE A, fv] (.own v 1 (ints .u8 (p)) 53 :: H) (fun r h' => r = .tup [] ∧ h' = .own v 1 (ints .u8 (mixG w (fun c d => hasR A c d && g c d) f p)) 53 :: H) := by
  have ro := fun h => rects_c A h (by omega)
  have hcn := hA.cnt
  clear hA
  unfold regE at *
  refine ACalls.intro Tryz.func94 rfl Tryz.ntmps94 Tryz.results94 (Nat.le_of_ble_eq_true rfl) ?_
  (repeat' (first|refine svz ⟨fun b hq=>?_⟩|refine svA ⟨?_⟩|refine svu ⟨fun u=>?_⟩|(refine svG (fun hg=>?_) (fun hg=>?_)<;>try exact svx)|refine svh (fun hb=>?_) (fun hb=>?_)|refine svb (fun b=>?_)|fail))
  refine W.scope ?_
  (repeat' (first|refine svz ⟨fun b hq=>?_⟩|refine svA ⟨?_⟩|refine svu ⟨fun u=>?_⟩|(refine svG (fun hg=>?_) (fun hg=>?_)<;>try exact svx)|refine svh (fun hb=>?_) (fun hb=>?_)|refine svb (fun b=>?_)|fail))
  refine W.label ?_
  (repeat' (first|refine svz ⟨fun b hq=>?_⟩|refine svA ⟨?_⟩|refine svu ⟨fun u=>?_⟩|(refine svG (fun hg=>?_) (fun hg=>?_)<;>try exact svx)|refine svh (fun hb=>?_) (fun hb=>?_)|refine svb (fun b=>?_)|fail))
  refine S.call ?_; refine (ro _).mono ?_; rintro r h' ⟨rfl, hh⟩; subst hh
  (repeat' (first|refine svz ⟨fun b hq=>?_⟩|refine svA ⟨?_⟩|refine svu ⟨fun u=>?_⟩|(refine svG (fun hg=>?_) (fun hg=>?_)<;>try exact svx)|refine svh (fun hb=>?_) (fun hb=>?_)|refine svb (fun b=>?_)|fail))
  rename_i b3
  revert b; intro b4
  refine W.loop (J := fun i : Nat => ⟨54, [(14, .val (.int .i64 ((i : Nat)))), (13, .val (.int .i64 ((A.length : Nat)))), (12, .ro 4 (A.map RC.enc)), (3, .val (.pointer (some ⟨b3, 0, none⟩))), (2, fv)], .box b4 [.ro 4 (A.map RC.enc)] 62 :: .box b3 [.val (.int .i64 ((w : Int))), .val (.int .i64 ((h : Int))), .val v] 88 :: .own v 1 (ints .u8 (mixG w (fun c d => hasR (A.take i) c d && g c d) f p)) 53 :: H⟩)
    (Φ := fun i => i ≤ A.length) (μ := fun i => A.length - i) 0 ?_ (Nat.zero_le _) ?_
  · rw [show (fun c d => hasR (A.take 0) c d && g c d) = fun _ _ => false from rfl, mixG_none]
    exact lee
  rintro i hi
  dsimp only
  rcases Nat.lt_or_ge i A.length with hlt | hge
  · obtain ⟨r, hr⟩ : ∃ r, A[i]? = some r := ⟨_, List.getElem?_eq_getElem hlt⟩
    obtain ⟨⟨k1, k2, k3⟩, k4, k5, k6⟩ := hcn r (List.mem_of_getElem? hr)
    by_cases hft : min (r.x + r.w) (w : Int) ≤ max r.x 0
    · rw [covR_skip hp hr hft]
      (repeat' (first|refine svz ⟨fun b hq=>?_⟩|refine svA ⟨?_⟩|refine svu ⟨fun u=>?_⟩|(refine svG (fun hg=>?_) (fun hg=>?_)<;>try exact svx)|refine svh (fun hb=>?_) (fun hb=>?_)|refine svb (fun b=>?_)|fail))
      exact ⟨i + 1, hlt, lee, by omega⟩
    · obtain ⟨a, ha⟩ : ∃ a : Nat, (a : Int) = max r.x 0 := ⟨(max r.x 0).toNat, by omega⟩
      obtain ⟨z, hz⟩ : ∃ z : Nat, (z : Int) = min (r.x + r.w) w := ⟨(min (r.x + r.w) w).toNat, by omega⟩
      obtain ⟨y0, hy0⟩ : ∃ z : Nat, (z : Int) = max r.y 0 := ⟨(max r.y 0).toNat, by omega⟩
      rw [covR_start hp hy0]
      have st := fun y h1 h2 => covR_step (w := w) (h := h) (a := a) (z := z) (y := y) (r := r) (Q := hasR (A.take i)) (g := g) (f := f) (p := p) hp ha hz h1 h2
      have en := fun y he => covR_end (w := w) (h := h) (i := i) (y := y) (r := r) (L := A) (g := g) (f := f) (p := p) hp hr he
      have hlen := fun y : Nat => mixG_len w (covR (hasR (A.take i)) r y g) f p
      generalize hasR (A.take i) = Q at *
      (repeat' (first|refine svz ⟨fun b hq=>?_⟩|refine svA ⟨?_⟩|refine svu ⟨fun u=>?_⟩|(refine svG (fun hg=>?_) (fun hg=>?_)<;>try exact svx)|refine svh (fun hb=>?_) (fun hb=>?_)|refine svb (fun b=>?_)|fail))
      revert b; intro b7
      rw [← ha, ← hz, ← hy0]
      refine W.loop (J := fun y : Nat => ⟨54, [(10, .val (.int .i64 ((y : Int)))), (9, .val (.int .i64 ((z : Int)))), (8, .val (.int .i64 ((a : Int)))), (7, .val (.pointer (some ⟨b7, 0, none⟩))), (14, .val (.int .i64 ((i : Nat)))), (13, .val (.int .i64 ((A.length : Nat)))), (12, .ro 4 (A.map RC.enc)), (3, .val (.pointer (some ⟨b3, 0, none⟩))), (2, fv)], .box b7 [.val (.int .i64 (r.x)), .val (.int .i64 (r.y)), .val (.int .i64 (r.w)), .val (.int .i64 (r.h))] 52 :: .box b4 [.ro 4 (A.map RC.enc)] 62 :: .box b3 [.val (.int .i64 ((w : Int))), .val (.int .i64 ((h : Int))), .val v] 88 :: .own v 1 (ints .u8 (mixG w (covR Q r y g) f p)) 53 :: H⟩)
        (Φ := fun y => y0 ≤ y) (μ := fun y => (r.y + r.h - y).toNat) y0 lee (Nat.le_refl _) ?_
      rintro y hy
      by_cases hy1 : r.y + r.h ≤ (y : Int)
      · rw [en y (.inl hy1)]
        (repeat' (first|refine svz ⟨fun b hq=>?_⟩|refine svA ⟨?_⟩|refine svu ⟨fun u=>?_⟩|(refine svG (fun hg=>?_) (fun hg=>?_)<;>try exact svx)|refine svh (fun hb=>?_) (fun hb=>?_)|refine svb (fun b=>?_)|fail))
        exact ⟨i + 1, hlt, lee, by omega⟩
      by_cases hy2 : h ≤ y
      · rw [en y (.inr hy2)]
        (repeat' (first|refine svz ⟨fun b hq=>?_⟩|refine svA ⟨?_⟩|refine svu ⟨fun u=>?_⟩|(refine svG (fun hg=>?_) (fun hg=>?_)<;>try exact svx)|refine svh (fun hb=>?_) (fun hb=>?_)|refine svb (fun b=>?_)|fail))
        exact ⟨i + 1, hlt, lee, by omega⟩
      have c1 := hcb y a z (mixG w (covR Q r y g) f p) (by rw [hlen]; exact hp) (by omega) (by omega) (by omega)
      rw [st y (by omega) (by omega)] at c1
      have hyy : ((y + 1 : Nat) : Int) = (y : Int) + 1 := by push_cast; rfl
      (repeat' (first|refine svz ⟨fun b hq=>?_⟩|refine svA ⟨?_⟩|refine svu ⟨fun u=>?_⟩|(refine svG (fun hg=>?_) (fun hg=>?_)<;>try exact svx)|refine svh (fun hb=>?_) (fun hb=>?_)|refine svb (fun b=>?_)|fail))
      refine Step.le (s' := ⟨54, [(51, .val (.int .i64 ((z : Int)))), (50, .val (.int .i64 ((a : Int)))), (49, .val (.int .i64 ((y : Int)))), (48, fv), (10, .val (.int .i64 ((y : Int)))), (9, .val (.int .i64 ((z : Int)))), (8, .val (.int .i64 ((a : Int)))), (7, .val (.pointer (some ⟨b7, 0, none⟩))), (14, .val (.int .i64 ((i : Nat)))), (13, .val (.int .i64 ((A.length : Nat)))), (12, .ro 4 (A.map RC.enc)), (3, .val (.pointer (some ⟨b3, 0, none⟩))), (2, fv)], .box b7 [.val (.int .i64 (r.x)), .val (.int .i64 (r.y)), .val (.int .i64 (r.w)), .val (.int .i64 (r.h))] 52 :: .box b4 [.ro 4 (A.map RC.enc)] 62 :: .box b3 [.val (.int .i64 ((w : Int))), .val (.int .i64 ((h : Int))), .val v] 88 :: .own v 1 (ints .u8 (mixG w (covR Q r y g) f p)) 53 :: H⟩) lee ?_
      refine S.callv hF ((c1.beside [.box b7 [.val (.int .i64 (r.x)), .val (.int .i64 (r.y)), .val (.int .i64 (r.w)), .val (.int .i64 (r.h))] 52, .box b4 [.ro 4 (A.map RC.enc)] 62, .box b3 [.val (.int .i64 ((w : Int))), .val (.int .i64 ((h : Int))), .val v] 88]).mono ?_)
      rintro r' h' ⟨h1, ⟨rfl, rfl⟩, hh⟩
      subst hh
      (repeat' (first|refine svz ⟨fun b hq=>?_⟩|refine svA ⟨?_⟩|refine svu ⟨fun u=>?_⟩|(refine svG (fun hg=>?_) (fun hg=>?_)<;>try exact svx)|refine svh (fun hb=>?_) (fun hb=>?_)|refine svb (fun b=>?_)|fail))
      exact ⟨y + 1, by omega, by rw [hyy]; exact lee, by omega⟩
  · rw [List.take_of_length_le hge]
    (repeat' (first|refine svz ⟨fun b hq=>?_⟩|refine svA ⟨?_⟩|refine svu ⟨fun u=>?_⟩|(refine svG (fun hg=>?_) (fun hg=>?_)<;>try exact svx)|refine svh (fun hb=>?_) (fun hb=>?_)|refine svb (fun b=>?_)|fail))
    show Fini _ _ _ _ _
    exact fin_n (h' := .own v 1 (ints .u8 (mixG w (fun c d => hasR A c d && g c d) f p)) 53 :: H) ⟨rfl, rfl⟩
set_option maxRecDepth 100000 in
theorem gfill_c (s : GR) (A : List RC) (q : Int) (h : Heap) (k : s.Ok) (hA : Can A) (hl : A.length ≤ 1000000) : ACalls Tryz.prog 44 [encG s, regE A, .val (.int .u8 (q))] h (fun r h' => r = encG (s.mix (hasR A) fun _ _ => q) ∧ h' = h) := by
  have tw := fun h => gtwin_c s h k
  have eD : (fun c d => hasR A c d && true) = hasR A := by funext c d; rw [Bool.and_true]
  have sp := fun v b5 b7 H m5 m7 => gspans_c A s.w s.h v s.pix (fun _ _ => true) (fun _ _ => q) (.clo 95 [.val (.pointer (some ⟨b5, 0, none⟩)), .val (.pointer (some ⟨b7, 0, none⟩))]) H k.len k.w.2 k.h.2 hA hl
    (fun y a z p hp hy ha hz => gfill1_c s.w s.h y a z q v p b5 b7 H hp k.w.2 k.h.2 hy ha hz m5 m7)
  rw [eD] at sp
  unfold GR.mix
  refine fz (g := fun v => .agg [.val (.int .i64 ((s.w : Int))), .val (.int .i64 ((s.h : Int))), v]) (g' := fun v => .agg [.val (.int .i64 ((s.w : Int))), .val (.int .i64 ((s.h : Int))), v]) (k := 1) (e := 53) (l := ints .u8 (mixG s.w (hasR A) (fun _ _ => q) s.pix)) (fun v => by (repeat' (first | exact Frz.hit | apply Frz.aggc | apply Frz.tupc | exact Frz.aggn | exact Frz.tupn | exact Frz.keep _))) ?_
  generalize mixG s.w (hasR A) (fun _ _ => q) s.pix = M at *
  unfold encG regE at *
  refine ACalls.intro Tryz.func44 rfl Tryz.ntmps44 Tryz.results44 (Nat.le_of_ble_eq_true rfl) ?_
  (repeat' (first|refine svz ⟨fun b hq=>?_⟩|refine svA ⟨?_⟩|refine svu ⟨fun u=>?_⟩|(refine svG (fun hg=>?_) (fun hg=>?_)<;>try exact svx)|refine svh (fun hb=>?_) (fun hb=>?_)|refine svb (fun b=>?_)|fail))
  refine S.call ?_
  refine (tw _).mono ?_
  rintro r h' ⟨v, rfl, hh⟩
  subst hh
  (repeat' (first|refine svz ⟨fun b hq=>?_⟩|refine svA ⟨?_⟩|refine svu ⟨fun u=>?_⟩|(refine svG (fun hg=>?_) (fun hg=>?_)<;>try exact svx)|refine svh (fun hb=>?_) (fun hb=>?_)|refine svb (fun b=>?_)|fail))
  rename_i b3 b4 b5 b6
  revert b; intro b7
  refine Step.le (s' := ⟨15, [(12, .clo (.func 95) [.val (.pointer (some ⟨b5, 0, none⟩)), .val (.pointer (some ⟨b7, 0, none⟩))]), (11, .agg [.ro 4 (A.map RC.enc)]), (10, .agg [.val (.int .i64 ((s.w : Int))), .val (.int .i64 ((s.h : Int))), .val v]), (7, .val (.pointer (some ⟨b7, 0, none⟩))), (6, .val (.pointer (some ⟨b6, 0, none⟩)))], .own v 1 (ints .u8 s.pix) 53 :: .box b7 [.val (.int .i64 ((s.w : Int))), .val (.int .i64 ((s.h : Int))), .val v] 88 :: .box b6 [.val (.int .i64 (0)), .val (.int .i64 (0)), .val (.slice none 0 0)] 88 :: .box b5 [.val (.int .u8 (q))] 53 :: h⟩) lee ?_
  refine S.call ?_
  refine (sp v b5 b7 (.box b7 [.val (.int .i64 ((s.w : Int))), .val (.int .i64 ((s.h : Int))), .val v] 88 :: .box b6 [.val (.int .i64 (0)), .val (.int .i64 (0)), .val (.slice none 0 0)] 88 :: .box b5 [.val (.int .u8 (q))] 53 :: h) (by (fail_if_success (apply memG)); repeat (first | exact List.Mem.head _ | assumption | refine List.Mem.tail _ ?_)) (by (fail_if_success (apply memG)); repeat (first | exact List.Mem.head _ | assumption | refine List.Mem.tail _ ?_))).mono ?_
  rintro r h' ⟨rfl, hh⟩
  subst hh
  (repeat' (first|refine svz ⟨fun b hq=>?_⟩|refine svA ⟨?_⟩|refine svu ⟨fun u=>?_⟩|(refine svG (fun hg=>?_) (fun hg=>?_)<;>try exact svx)|refine svh (fun hb=>?_) (fun hb=>?_)|refine svb (fun b=>?_)|fail))
  exact fin_r (h' := .own v 1 (ints .u8 M) 53 :: h) ⟨v, rfl, rfl⟩
set_option maxRecDepth 100000 in
theorem glay_c (s s2 : GR) (dx dy : Int) (A : List RC) (h : Heap) (k : s.Ok) (k2 : s2.Ok) (hdx : -1048576 ≤ dx ∧ dx ≤ 1048576) (hdy : -1048576 ≤ dy ∧ dy ≤ 1048576) (hA : Can A) (hl : A.length ≤ 1000000) :
    ACalls Tryz.prog 63 [encG s, encG s2, .val (.int .i64 (dx)), .val (.int .i64 (dy)), regE A] h (fun r h' => r = encG (s.mix (fun c d => hasR A c d && layD s2 dx dy c d) (layF s2 dx dy)) ∧ h' = h) := by
  have tw := fun h => gtwin_c s h k
  have q1 := gcoord_c dx
  have q2 := gcoord_c dy
  rw [decide_eq_true hdx] at q1
  rw [decide_eq_true hdy] at q2
  have sp := fun v b6 b7 b8 b11 H m6 m7 m8 m11 => gspans_c A s.w s.h v s.pix (layD s2 dx dy) (layF s2 dx dy) (.clo 106 [.val (.pointer (some ⟨b6, 0, none⟩)), .val (.pointer (some ⟨b7, 0, none⟩)), .val (.pointer (some ⟨b8, 0, none⟩)), .val (.pointer (some ⟨b11, 0, none⟩))]) H k.len k.w.2 k.h.2 hA hl
    (fun y a z p hp hy ha hz => glay1_c s2 dx dy s.w s.h y a z v p b6 b7 b8 b11 H k2 hdx hdy hp k.w.2 k.h.2 hy ha hz m6 m7 m8 m11)
  unfold GR.mix
  refine fz (g := fun v => .agg [.val (.int .i64 ((s.w : Int))), .val (.int .i64 ((s.h : Int))), v]) (g' := fun v => .agg [.val (.int .i64 ((s.w : Int))), .val (.int .i64 ((s.h : Int))), v]) (k := 1) (e := 53) (l := ints .u8 (mixG s.w (fun c d => hasR A c d && layD s2 dx dy c d) (layF s2 dx dy) s.pix)) (fun v => by (repeat' (first | exact Frz.hit | apply Frz.aggc | apply Frz.tupc | exact Frz.aggn | exact Frz.tupn | exact Frz.keep _))) ?_
  generalize mixG s.w (fun c d => hasR A c d && layD s2 dx dy c d) (layF s2 dx dy) s.pix = M at *
  unfold encG regE at *
  refine ACalls.intro Tryz.func63 rfl Tryz.ntmps63 Tryz.results63 (Nat.le_of_ble_eq_true rfl) ?_
  (repeat' (first|refine svz ⟨fun b hq=>?_⟩|refine svA ⟨?_⟩|refine svu ⟨fun u=>?_⟩|(refine svG (fun hg=>?_) (fun hg=>?_)<;>try exact svx)|refine svh (fun hb=>?_) (fun hb=>?_)|refine svb (fun b=>?_)|fail))
  refine S.call ?_; refine (q1 _).mono ?_; rintro r h' ⟨rfl, hh⟩; subst hh
  (repeat' (first|refine svz ⟨fun b hq=>?_⟩|refine svA ⟨?_⟩|refine svu ⟨fun u=>?_⟩|(refine svG (fun hg=>?_) (fun hg=>?_)<;>try exact svx)|refine svh (fun hb=>?_) (fun hb=>?_)|refine svb (fun b=>?_)|fail))
  refine S.call ?_; refine (q2 _).mono ?_; rintro r h' ⟨rfl, hh⟩; subst hh
  (repeat' (first|refine svz ⟨fun b hq=>?_⟩|refine svA ⟨?_⟩|refine svu ⟨fun u=>?_⟩|(refine svG (fun hg=>?_) (fun hg=>?_)<;>try exact svx)|refine svh (fun hb=>?_) (fun hb=>?_)|refine svb (fun b=>?_)|fail))
  rename_i b5 b6 b7 b8 b9
  revert b; intro b10
  refine S.call ?_
  refine (tw _).mono ?_
  rintro r h' ⟨v, rfl, hh⟩
  subst hh
  (repeat' (first|refine svz ⟨fun b hq=>?_⟩|refine svA ⟨?_⟩|refine svu ⟨fun u=>?_⟩|(refine svG (fun hg=>?_) (fun hg=>?_)<;>try exact svx)|refine svh (fun hb=>?_) (fun hb=>?_)|refine svb (fun b=>?_)|fail))
  revert b; intro b11
  refine Step.le (s' := ⟨28, [(25, .clo (.func 106) [.val (.pointer (some ⟨b6, 0, none⟩)), .val (.pointer (some ⟨b7, 0, none⟩)), .val (.pointer (some ⟨b8, 0, none⟩)), .val (.pointer (some ⟨b11, 0, none⟩))]), (24, .agg [.ro 4 (A.map RC.enc)]), (23, .agg [.val (.int .i64 ((s.w : Int))), .val (.int .i64 ((s.h : Int))), .val v]), (11, .val (.pointer (some ⟨b11, 0, none⟩))), (10, .val (.pointer (some ⟨b10, 0, none⟩)))], .own v 1 (ints .u8 s.pix) 53 :: .box b11 [.val (.int .i64 ((s.w : Int))), .val (.int .i64 ((s.h : Int))), .val v] 88 :: .box b10 [.val (.int .i64 (0)), .val (.int .i64 (0)), .val (.slice none 0 0)] 88 :: .box b8 [.val (.int .i64 (dy))] 3 :: .box b7 [.val (.int .i64 (dx))] 3 :: .box b6 [.val (.int .i64 ((s2.w : Int))), .val (.int .i64 ((s2.h : Int))), .ro 1 (ints .u8 s2.pix)] 88 :: h⟩) lee ?_
  refine S.call ?_
  refine (sp v b6 b7 b8 b11 (.box b11 [.val (.int .i64 ((s.w : Int))), .val (.int .i64 ((s.h : Int))), .val v] 88 :: .box b10 [.val (.int .i64 (0)), .val (.int .i64 (0)), .val (.slice none 0 0)] 88 :: .box b8 [.val (.int .i64 (dy))] 3 :: .box b7 [.val (.int .i64 (dx))] 3 :: .box b6 [.val (.int .i64 ((s2.w : Int))), .val (.int .i64 ((s2.h : Int))), .ro 1 (ints .u8 s2.pix)] 88 :: h) (by (fail_if_success (apply memG)); repeat (first | exact List.Mem.head _ | assumption | refine List.Mem.tail _ ?_)) (by (fail_if_success (apply memG)); repeat (first | exact List.Mem.head _ | assumption | refine List.Mem.tail _ ?_)) (by (fail_if_success (apply memG)); repeat (first | exact List.Mem.head _ | assumption | refine List.Mem.tail _ ?_)) (by (fail_if_success (apply memG)); repeat (first | exact List.Mem.head _ | assumption | refine List.Mem.tail _ ?_))).mono ?_
  rintro r h' ⟨rfl, hh⟩
  subst hh
  (repeat' (first|refine svz ⟨fun b hq=>?_⟩|refine svA ⟨?_⟩|refine svu ⟨fun u=>?_⟩|(refine svG (fun hg=>?_) (fun hg=>?_)<;>try exact svx)|refine svh (fun hb=>?_) (fun hb=>?_)|refine svb (fun b=>?_)|fail))
  exact fin_r (h' := .own v 1 (ints .u8 M) 53 :: h) ⟨v, rfl, rfl⟩
end Go.Proofs.YtfbegifmhgkpjaaGreat
