import Derived.Test.YtfbegifmhgkpjaaGreatZ3
import Derived.Test.YtfbegifmhgkpjaaGreatB9
/- Plain: trees of windows with their places; what the view has. No condition. -/
namespace Go.Proofs.YtfbegifmhgkpjaaGreat
open Go Go.VM
set_option linter.unusedVariables false
set_option linter.unusedSimpArgs false
set_option linter.unusedSectionVars false
set_option maxHeartbeats 4000000
theorem sum_bd {t : PW} (hx : ∀ w b, lkF t w = some b → b.Ok) : ∀ L, (-128 * (L.length : Int) ≤ sumX t L ∧ sumX t L ≤ 128 * (L.length : Int)) ∧ -128 * (L.length : Int) ≤ sumY t L ∧ sumY t L ≤ 128 * (L.length : Int)
  | [] => by simp [sumX, sumY]
  | w :: L => by
    have ih := sum_bd hx L
    have hb : (-128 ≤ (bxF t w).x ∧ (bxF t w).x ≤ 128) ∧ -128 ≤ (bxF t w).y ∧ (bxF t w).y ≤ 128 := by
      unfold bxF
      cases e : lkF t w with
      | none => simp
      | some b => have h1 := (hx w b e).x; have h2 := (hx w b e).y; simp; omega
    unfold sumX sumY
    rw [List.length_cons]
    split <;> omega
structure PWOk (k : SVT) (up : UP) (t : PW) : Prop where
  w : TW k up
  bt : ∀ id, hasT up id = true → ∃ b, lkF t id = some b
  ok : ∀ id b, lkF t id = some b → b.Ok
  root : ∃ x y, lkF t 1 = some (rootB x y)
  ul : up.length ≤ 60
def oX (up : UP) (t : PW) (id : Int) : Int := sumX t (id :: rP up id)
def oY (up : UP) (t : PW) (id : Int) : Int := sumY t (id :: rP up id)
theorem path_in {up : UP} {id : Int} {R : List Int} (h : Pth up id R) : ∀ w ∈ id :: R, hasT up w = true := by
  induction h with
  | root => intro w hw; rw [List.mem_singleton.1 hw]; unfold hasT; simp
  | @up id p R h1 h2 r ih =>
    intro w hw
    rcases List.mem_cons.1 hw with rfl | hw
    · unfold hasT; rw [h2]; rfl
    · exact ih w hw
section
variable {k : SVT} {up : UP} {t : PW} (Q : PWOk k up t)
include Q
theorem PWOk.path {id : Int} (h : hasT up id = true) : Pth up id (rP up id) ∧ (rP up id).length ≤ 60 := by
  have := Q.w.pthR h; have := Q.ul
  exact ⟨(Q.w.pthR h).1, by omega⟩
theorem PWOk.boxes {id : Int} (h : hasT up id = true) : ∀ w ∈ id :: rP up id, ∃ b, lkF t w = some b := fun w hw => Q.bt w (path_in (Q.path h).1 w hw)
theorem PWOk.o_bd {id : Int} (h : hasT up id = true) : (-10000 ≤ oX up t id ∧ oX up t id ≤ 10000) ∧ -10000 ≤ oY up t id ∧ oY up t id ≤ 10000 := by
  have h1 := sum_bd Q.ok (id :: rP up id)
  have h2 := (Q.path h).2
  rw [List.length_cons] at h1
  unfold oX oY
  omega
theorem PWOk.o_kid {p c : Int} {b : BW} (h : c ∈ ofS k p) (hb : lkF t c = some b) : oX up t c = oX up t p + b.x ∧ oY up t c = oY up t p + b.y := by
  have h1 := (Q.w.rP_kid h).1
  have h2 := Q.w.kid_ne1 h
  have h3 : bxF t c = b := by unfold bxF; rw [hb]; rfl
  unfold oX oY
  rw [h1]
  rw [show sumX t (c :: p :: rP up p) = (if c = 1 then 0 else (bxF t c).x) + sumX t (p :: rP up p) from rfl, show sumY t (c :: p :: rP up p) = (if c = 1 then 0 else (bxF t c).y) + sumY t (p :: rP up p) from rfl, if_neg h2, if_neg h2, h3]
  omega
theorem PWOk.o_root : oX up t 1 = 0 ∧ oY up t 1 = 0 := by
  have h1 := (Pth.root (up := up)).eq_path Q.w.n1 up.length (Nat.zero_le _)
  unfold oX oY rP
  rw [h1]
  simp [sumX, sumY]
theorem PWOk.has1 : hasT up 1 = true := by unfold hasT; simp
theorem PWOk.can_kid {p c : Int} {b : BW} (h : c ∈ ofS k p) (hb : lkF t c = some b) : Zx 16 (shF (oX up t p + b.x) (oY up t p + b.y) (areaB b)) := by
  have h1 := Q.o_bd (Q.w.rP_kid h).2
  have ob := Q.ok c b hb
  have h2 := ob.x
  have h3 := ob.y
  exact Zx.sh ob.area (by omega) (by omega) (by omega)
end
def rkF (up : UP) (id : Int) : Nat := up.length - (rP up id).length
section
variable {bx : PW} {K : Int → List Int} {ox oy : Int → Int} {up : UP}
theorem lp_mem {hd : Int → List RC → List RC → List (Int × SW)} {id : Int} {pl : List RC} {e : Int × SW} : ∀ {ks : List Int} {lf : List RC}, e ∈ (lpF bx ox oy hd id pl ks lf).1 → ∃ kid ∈ ks, ∃ b lf', lkF bx kid = some b ∧ e ∈ hd kid (kidA ox oy id b pl) (AndJ (kidA ox oy id b pl) lf')
  | [], lf, h => by cases h
  | kid :: ks, lf, h => by
    unfold lpF at h
    cases hb : lkF bx kid with
    | none =>
      rw [hb] at h
      obtain ⟨c, h1, h2⟩ := lp_mem h
      exact ⟨c, List.mem_cons_of_mem _ h1, h2⟩
    | some b =>
      rw [hb] at h
      dsimp only at h
      split at h
      · obtain ⟨c, h1, h2⟩ := lp_mem h
        exact ⟨c, List.mem_cons_of_mem _ h1, h2⟩
      · rcases List.mem_append.1 h with h | h
        · exact ⟨kid, List.mem_cons_self .., b, lf, hb, h⟩
        · obtain ⟨c, h1, h2⟩ := lp_mem h
          exact ⟨c, List.mem_cons_of_mem _ h1, h2⟩
theorem hand_anc (hK : ∀ p c, c ∈ K p → lkF up c = some p) : ∀ (f : Nat) (id : Int) (pl lf : List RC), ∀ e ∈ handF bx K ox oy f id pl lf, Anc up id e.1
  | 0, _, _, _, e, he => by cases he
  | f + 1, id, pl, lf, e, he => by
    unfold handF at he
    rcases List.mem_append.1 he with he | he
    · obtain ⟨c, h1, b, lf', h2, h3⟩ := lp_mem he
      exact (Anc.step (hK id c (List.mem_reverse.1 h1)) .refl).trans (hand_anc hK f c _ _ e h3)
    · rw [List.mem_singleton.1 he]; exact .refl
theorem lp_nodup {hd : Int → List RC → List RC → List (Int × SW)} {id : Int} {pl : List RC} (h1 : ∀ c a l, ((hd c a l).map (·.1)).Nodup) (h2 : ∀ c a l, ∀ e ∈ hd c a l, Anc up c e.1)
    (h3 : ∀ a c x, a ∈ K id → c ∈ K id → Anc up a x → Anc up c x → a = c) : ∀ (ks : List Int) (lf : List RC), (∀ c ∈ ks, c ∈ K id) → ks.Nodup → ((lpF bx ox oy hd id pl ks lf).1.map (·.1)).Nodup
  | [], lf, _, _ => by simp [lpF]
  | kid :: ks, lf, hs, hn => by
    rw [List.nodup_cons] at hn
    unfold lpF
    cases hb : lkF bx kid with
    | none => exact lp_nodup h1 h2 h3 ks lf (fun c hc => hs c (List.mem_cons_of_mem _ hc)) hn.2
    | some b =>
      dsimp only
      split
      · exact lp_nodup h1 h2 h3 ks lf (fun c hc => hs c (List.mem_cons_of_mem _ hc)) hn.2
      · rw [List.map_append, List.nodup_append]
        refine ⟨h1 _ _ _, lp_nodup h1 h2 h3 ks _ (fun c hc => hs c (List.mem_cons_of_mem _ hc)) hn.2, fun x hx y hy e => ?_⟩
        subst e
        obtain ⟨q, q1, rfl⟩ := List.mem_map.1 hx
        obtain ⟨q', q1', q2'⟩ := List.mem_map.1 hy
        obtain ⟨c, g1, b', lf', g2, g3⟩ := lp_mem q1'
        have := h3 kid c q.1 (hs kid (List.mem_cons_self ..)) (hs c (List.mem_cons_of_mem _ g1)) (h2 _ _ _ q q1) (q2' ▸ h2 _ _ _ q' g3)
        exact hn.1 (this ▸ g1)
end
theorem hand_nodup {k : SVT} {up : UP} (w : TW k up) {bx : PW} {ox oy : Int → Int} : ∀ (f : Nat) (id : Int) (pl lf : List RC), ((handF bx (ofS k) ox oy f id pl lf).map (·.1)).Nodup
  | 0, _, _, _ => by simp [handF]
  | f + 1, id, pl, lf => by
    unfold handF
    have hK : ∀ p c, c ∈ ofS k p → lkF up c = some p := fun p c => (w.kid p c).1
    rw [List.map_append, List.nodup_append]
    refine ⟨lp_nodup (K := ofS k) (up := up) (hand_nodup w f) (hand_anc hK f) (fun a c x ha hc => w.apart ha hc) _ lf (fun c hc => List.mem_reverse.1 hc) (List.pairwise_reverse.2 ((w.kd id).imp fun h => Ne.symm h)), by simp, fun x hx y hy e => ?_⟩
    subst e
    obtain ⟨q, q1, rfl⟩ := List.mem_map.1 hx
    obtain ⟨c, g1, b', lf', g2, g3⟩ := lp_mem q1
    have h1 := hand_anc hK f c _ _ q g3
    have h2 : q.1 = id := by simpa using hy
    rw [h2] at h1
    exact w.kid_above (List.mem_reverse.1 g1) h1
end Go.Proofs.YtfbegifmhgkpjaaGreat

/- Plain: planes of pixels. No condition. -/
namespace Go.Proofs.YtfbegifmhgkpjaaGreat
open Go Go.VM
set_option linter.unusedVariables false
set_option linter.unusedSimpArgs false
set_option maxHeartbeats 4000000
structure GR where
  (w h : Nat) (pix : List Int)
structure GR.Ok (g : GR) : Prop where
  w : 1 ≤ g.w ∧ g.w ≤ 128
  h : 1 ≤ g.h ∧ g.h ≤ 128
  len : g.pix.length = g.w * g.h
  px : ∀ p ∈ g.pix, 0 ≤ p ∧ p ≤ 255
def GR.has (g : GR) (x y : Int) : Prop := (0 ≤ x ∧ x < g.w) ∧ 0 ≤ y ∧ y < g.h
instance decGR (g : GR) (x y : Int) : Decidable (g.has x y) := inferInstanceAs (Decidable (_ ∧ _))
def GR.at' (g : GR) (x y : Int) : Int := if g.has x y then g.pix.getD (y * g.w + x).toNat 0 else 0
def mixG (w : Nat) (D : Int → Int → Bool) (f : Int → Int → Int) (p : List Int) : List Int := p.zipIdx.map fun q => if D ((q.2 % w : Nat) : Int) ((q.2 / w : Nat) : Int) then f ((q.2 % w : Nat) : Int) ((q.2 / w : Nat) : Int) else q.1
theorem mixG_len (w : Nat) (D : Int → Int → Bool) (f : Int → Int → Int) (p : List Int) : (mixG w D f p).length = p.length := by unfold mixG; simp
theorem mixG_get (w : Nat) (D : Int → Int → Bool) (f : Int → Int → Int) (p : List Int) (i : Nat) : (mixG w D f p)[i]? = p[i]?.map fun v => if D ((i % w : Nat) : Int) ((i / w : Nat) : Int) then f ((i % w : Nat) : Int) ((i / w : Nat) : Int) else v := by
  unfold mixG
  rw [List.getElem?_map, List.getElem?_zipIdx]
  cases p[i]? <;> simp
theorem mixG_none (w : Nat) (f : Int → Int → Int) (p : List Int) : mixG w (fun _ _ => false) f p = p := by
  refine List.ext_getElem? fun i => ?_
  rw [mixG_get]
  cases p[i]? <;> simp
theorem at_mod {w x y : Nat} (hx : x < w) : (y * w + x) % w = x ∧ (y * w + x) / w = y := by
  constructor
  · rw [Nat.mul_comm, Nat.mul_add_mod, Nat.mod_eq_of_lt hx]
  · rw [Nat.mul_comm, Nat.mul_add_div (by omega), Nat.div_eq_of_lt hx, Nat.add_zero]
theorem idx_lt {w h x y : Nat} (hx : x < w) (hy : y < h) : y * w + x < w * h := by
  have : (y + 1) * w ≤ h * w := Nat.mul_le_mul_right w hy
  rw [Nat.add_mul, Nat.one_mul] at this
  rw [Nat.mul_comm w h]
  omega
theorem mixG_set {w : Nat} {D : Int → Int → Bool} {f : Int → Int → Int} {p : List Int} {x y : Nat} (hx : x < w) :
    (mixG w D f p).set (y * w + x) (f x y) = mixG w (fun a b => D a b || (decide (a = x) && decide (b = y))) f p := by
  refine List.ext_getElem? fun i => ?_
  rw [List.getElem?_set, mixG_get, mixG_get, mixG_len]
  by_cases hi : y * w + x = i
  · subst hi
    obtain ⟨e1, e2⟩ := at_mod (y := y) hx
    rw [if_pos rfl, e1, e2]
    by_cases hl : y * w + x < p.length
    · rw [if_pos hl, List.getElem?_eq_getElem hl]; simp
    · rw [if_neg hl, List.getElem?_eq_none (by omega)]; rfl
  · rw [if_neg hi]
    have hne : ¬ (((i % w : Nat) : Int) = x ∧ ((i / w : Nat) : Int) = y) := fun ⟨h1, h2⟩ => hi (by
      have h1 : i % w = x := by omega
      have h2 : i / w = y := by omega
      have := Nat.div_add_mod i w
      rw [h1, h2, Nat.mul_comm] at this
      exact this)
    have : (decide (((i % w : Nat) : Int) = x) && decide (((i / w : Nat) : Int) = y)) = false := by
      rw [Bool.eq_false_iff]
      intro h
      rw [Bool.and_eq_true, decide_eq_true_iff, decide_eq_true_iff] at h
      exact hne h
    rw [this, Bool.or_false]
theorem mixG_px {w : Nat} {D : Int → Int → Bool} {f : Int → Int → Int} {p : List Int} (hp : ∀ v ∈ p, 0 ≤ v ∧ v ≤ 255) (hf : ∀ x y, 0 ≤ f x y ∧ f x y ≤ 255) : ∀ v ∈ mixG w D f p, 0 ≤ v ∧ v ≤ 255 := fun v hv => by
  obtain ⟨⟨a, i⟩, h1, rfl⟩ := List.mem_map.1 hv
  dsimp only
  split
  · exact hf _ _
  · exact hp a (by have := List.mem_zipIdx_iff_getElem?.1 h1; exact List.mem_of_getElem? this)
theorem mixG_congr {w h : Nat} {D D' : Int → Int → Bool} {f f' : Int → Int → Int} {p : List Int} (hp : p.length = w * h) (hD : ∀ c d : Nat, c < w → d < h → D c d = D' c d) (hf : ∀ c d : Nat, c < w → d < h → D c d = true → f c d = f' c d) : mixG w D f p = mixG w D' f' p := by
  refine List.ext_getElem? fun i => ?_
  rw [mixG_get, mixG_get]
  cases e : p[i]? with
  | none => rfl
  | some v =>
    have hi : i < w * h := by have := (List.getElem?_eq_some_iff.1 e).1; omega
    have hw : 0 < w := Nat.pos_of_ne_zero fun e => by rw [e, Nat.zero_mul] at hi; omega
    have h1 := Nat.mod_lt i hw
    have h2 : i / w < h := Nat.div_lt_of_lt_mul hi
    have h3 := hD (i % w) (i / w) h1 h2
    rw [Option.map_some, Option.map_some, ← h3]
    split
    · rename_i hq; rw [hf _ _ h1 h2 hq]
    · rfl
theorem mixG_comp (w : Nat) (D1 D2 : Int → Int → Bool) (f : Int → Int → Int) (p : List Int) : mixG w D2 f (mixG w D1 f p) = mixG w (fun c d => D1 c d || D2 c d) f p := by
  refine List.ext_getElem? fun i => ?_
  rw [mixG_get, mixG_get, mixG_get, Option.map_map]
  cases p[i]? with
  | none => rfl
  | some v =>
    simp only [Option.map_some, Function.comp]
    cases D1 ((i % w : Nat) : Int) ((i / w : Nat) : Int) <;> cases D2 ((i % w : Nat) : Int) ((i / w : Nat) : Int) <;> rfl
def rowD (y a x : Int) (g : Int → Int → Bool) : Int → Int → Bool := fun c d => decide (d = y) && decide (a ≤ c ∧ c < x) && g c d
theorem rowD_none (y a : Int) (g : Int → Int → Bool) : rowD y a a g = fun _ _ => false := by
  funext c d
  unfold rowD
  rw [show decide (a ≤ c ∧ c < a) = false from decide_eq_false (by omega), Bool.and_false, Bool.false_and]
theorem rowD_on {y a x : Int} {g : Int → Int → Bool} (hx : a ≤ x) (hg : g x y = true) : (fun c d => rowD y a x g c d || (decide (c = x) && decide (d = y))) = rowD y a (x + 1) g := by
  funext c d
  unfold rowD
  by_cases h1 : d = y
  · subst h1
    by_cases h2 : c = x
    · subst h2
      rw [hg]; simp; omega
    · rw [decide_eq_false h2, Bool.false_and, Bool.or_false, show decide (a ≤ c ∧ c < x + 1) = decide (a ≤ c ∧ c < x) from decide_eq_decide.2 (by omega)]
  · simp [h1]
theorem rowD_off {y a x : Int} {g : Int → Int → Bool} (hg : g x y = false) : rowD y a (x + 1) g = rowD y a x g := by
  funext c d
  unfold rowD
  by_cases h1 : d = y
  · subst h1
    by_cases h2 : c = x
    · subst h2
      rw [hg]; simp
    · rw [show decide (a ≤ c ∧ c < x + 1) = decide (a ≤ c ∧ c < x) from decide_eq_decide.2 (by omega)]
  · simp [h1]
def GR.mix (g : GR) (D : Int → Int → Bool) (f : Int → Int → Int) : GR := ⟨g.w, g.h, mixG g.w D f g.pix⟩
theorem GR.Ok.mix {g : GR} (k : g.Ok) (D : Int → Int → Bool) {f : Int → Int → Int} (hf : ∀ x y, 0 ≤ f x y ∧ f x y ≤ 255) : (g.mix D f).Ok := ⟨k.w, k.h, by unfold GR.mix; rw [mixG_len]; exact k.len, mixG_px k.px hf⟩
theorem GR.mix_at {g : GR} (k : g.Ok) (D : Int → Int → Bool) (f : Int → Int → Int) {x y : Int} (h : g.has x y) : (g.mix D f).at' x y = if D x y then f x y else g.at' x y := by
  obtain ⟨⟨h1, h2⟩, h3, h4⟩ := id h
  obtain ⟨a, rfl⟩ := Int.eq_ofNat_of_zero_le h1
  obtain ⟨b, rfl⟩ := Int.eq_ofNat_of_zero_le h3
  have ha : a < g.w := by omega
  have hb : b < g.h := by omega
  have hlt := idx_lt ha hb
  obtain ⟨e1, e2⟩ := at_mod (y := b) ha
  have hi : ((b : Int) * (g.w : Int) + (a : Int)).toNat = b * g.w + a := by
    rw [show ((b : Int) * (g.w : Int) + (a : Int)) = ((b * g.w + a : Nat) : Int) by push_cast; rfl]; rfl
  unfold GR.at'
  rw [if_pos (show (g.mix D f).has _ _ from h), if_pos h]
  show (mixG g.w D f g.pix).getD (((b : Int)) * (g.w : Int) + (a : Int)).toNat 0 = _
  rw [hi, List.getD_eq_getElem?_getD, mixG_get, e1, e2, List.getD_eq_getElem?_getD, List.getElem?_eq_getElem (by rw [k.len]; exact hlt)]
  rfl
end Go.Proofs.YtfbegifmhgkpjaaGreat
