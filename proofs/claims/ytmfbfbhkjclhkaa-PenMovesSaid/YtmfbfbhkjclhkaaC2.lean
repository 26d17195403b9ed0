import Derived.Test.YtmfbfbhkjclhkaaB4
import Derived.Test.YtmfbfbhkjclhkaaW1
/- Laws of pens, in plain words. No condition. -/
namespace Go.Proofs.Ytmfbfbhkjclhkaa
open Go Go.VM
set_option linter.unusedVariables false
set_option linter.unusedSimpArgs false
theorem putC_5 (m : Nat) (n : List Int) (p : PN) : putC m n p 5 = ⟨if bitM m 0 then n.getD 0 0 else p.fn, if bitM m 1 then n.getD 1 0 else p.pl, if bitM m 2 then n.getD 2 0 else p.fo, if bitM m 3 then n.getD 3 0 else p.ba, if bitM m 4 then n.getD 4 0 else p.ft, p.x, p.y, p.cl, p.clip⟩ := by
  simp only [putC]
  cases bitM m 0 <;> cases bitM m 1 <;> cases bitM m 2 <;> cases bitM m 3 <;> cases bitM m 4 <;> rfl
theorem okN_put (m : Nat) (n : List Int) (i : Nat) : okN m n i = true ↔ (bitM m i = true → okC i (n.getD i 0) = true) := by
  unfold okN; cases bitM m i <;> simp
theorem badN_0 {m : Nat} {n : List Int} : badN m n = 0 ↔ okN m n 0 = true ∧ okN m n 1 = true ∧ okN m n 2 = true ∧ okN m n 3 = true ∧ okN m n 4 = true := by
  unfold badN
  cases okN m n 0 <;> cases okN m n 1 <;> cases okN m n 2 <;> cases okN m n 3 <;> cases okN m n 4 <;> decide
theorem chk_fn {p : PN} (hp : chkF p = 0) (v a b c d : Int) (hv : 0 ≤ v ∧ v ≤ 15) : chkF ⟨v, a, b, c, d, p.x, p.y, p.cl, p.clip⟩ = 0 := by
  unfold chkF at *
  dsimp only
  rw [if_neg (by omega)]
  split at hp
  · omega
  · exact hp
theorem chk_fn2 {p : PN} (hp : chkF p = 0) : 0 ≤ p.fn ∧ p.fn ≤ 15 := by
  unfold chkF at hp
  by_cases h : 0 ≤ p.fn ∧ p.fn ≤ 15
  · exact h
  · rw [if_pos h] at hp; omega
theorem chk_put {p : PN} {m : Nat} {n : List Int} (hp : chkF p = 0) (h0 : okN m n 0 = true) : chkF (putC m n p 5) = 0 := by
  rw [putC_5]
  refine chk_fn hp _ _ _ _ _ ?_
  by_cases hb : bitM m 0 = true
  · rw [if_pos hb]
    have := (okN_put m n 0).1 h0 hb
    unfold okC at this
    simpa using this
  · rw [if_neg hb]
    exact chk_fn2 hp
theorem bits_or : (List.range 32).all (fun x => (List.range 32).all fun y => (List.range 5).all fun i => bitM (x ||| y) i == (bitM x i || bitM y i) && (x &&& y != 0 || !(bitM x i && bitM y i))) = true := by decide +kernel
theorem bit_or {x y i : Nat} (hx : x < 32) (hy : y < 32) (hi : i < 5) : bitM (x ||| y) i = (bitM x i || bitM y i) ∧ (x &&& y = 0 → (bitM x i && bitM y i) = false) := by
  have h := List.all_eq_true.1 (List.all_eq_true.1 (List.all_eq_true.1 bits_or x (List.mem_range.2 hx)) y (List.mem_range.2 hy)) i (List.mem_range.2 hi)
  rw [Bool.and_eq_true] at h
  refine ⟨by simpa using h.1, fun e => ?_⟩
  have := h.2
  rw [e] at this
  revert this
  cases bitM x i <;> cases bitM y i <;> decide
/-- Two masks without a bit in both. -/
theorem twice_law {p : PN} {x y : Nat} {n : List Int} (hx : x < 32) (hy : y < 32) (hxy : x &&& y = 0) (hn : n.length = 5) :
    (if (chgF p x n).2 ≠ 0 ∨ (chgF (chgF p x n).1 y n).2 ≠ 0 ∨ (chgF p y n).2 ≠ 0 ∨ (chgF (chgF p y n).1 x n).2 ≠ 0 then (chgF p ((x ||| y : Nat) : Int) n).2 ≠ 0 ∧ (chgF p ((x ||| y : Nat) : Int) n).1 = p
     else (chgF p ((x ||| y : Nat) : Int) n).2 = 0 ∧ (chgF (chgF p x n).1 y n).1 = (chgF (chgF p y n).1 x n).1 ∧ (chgF (chgF p x n).1 y n).1 = (chgF p ((x ||| y : Nat) : Int) n).1) := by
  have hz : x ||| y < 32 := Nat.or_lt_two_pow (n := 5) hx hy
  have form : ∀ (q : PN) (m : Nat), m < 32 → chgF q m n = if chkF q ≠ 0 then (q, chkF q) else if badN m n = 0 then (putC m n q 5, 0) else (q, badN m n) := fun q m hm => by
    unfold chgF
    rw [if_neg (show ¬ ((m : Int) < 0 ∨ 31 < (m : Int)) by omega), if_neg (show ¬ n.length ≠ 5 by omega), Int.toNat_natCast]
  rw [form p x hx, form p y hy, form p _ hz]
  by_cases hc : chkF p = 0
  · have hnc : ¬ chkF p ≠ 0 := fun q => q hc
    rw [if_neg hnc, if_neg hnc, if_neg hnc]
    have k0 := bit_or hx hy (show 0 < 5 by omega)
    have k1 := bit_or hx hy (show 1 < 5 by omega)
    have k2 := bit_or hx hy (show 2 < 5 by omega)
    have k3 := bit_or hx hy (show 3 < 5 by omega)
    have k4 := bit_or hx hy (show 4 < 5 by omega)
    have ok : ∀ i, i < 5 → (okN (x ||| y) n i = true ↔ okN x n i = true ∧ okN y n i = true) := fun i hi => by
      have := bit_or hx hy hi
      unfold okN; rw [this.1]
      cases bitM x i <;> cases bitM y i <;> cases okC i (n.getD i 0) <;> decide
    have hb : badN (x ||| y) n = 0 ↔ badN x n = 0 ∧ badN y n = 0 := by
      rw [badN_0, badN_0, badN_0, ok 0 (by omega), ok 1 (by omega), ok 2 (by omega), ok 3 (by omega), ok 4 (by omega)]
      constructor
      · rintro ⟨⟨a0, b0⟩, ⟨a1, b1⟩, ⟨a2, b2⟩, ⟨a3, b3⟩, a4, b4⟩; exact ⟨⟨a0, a1, a2, a3, a4⟩, b0, b1, b2, b3, b4⟩
      · rintro ⟨⟨a0, a1, a2, a3, a4⟩, b0, b1, b2, b3, b4⟩; exact ⟨⟨a0, b0⟩, ⟨a1, b1⟩, ⟨a2, b2⟩, ⟨a3, b3⟩, a4, b4⟩
    by_cases bx : badN x n = 0
    · have cx : chkF (putC x n p 5) = 0 := chk_put hc (badN_0.1 bx).1
      by_cases by_ : badN y n = 0
      · have cy : chkF (putC y n p 5) = 0 := chk_put hc (badN_0.1 by_).1
        rw [if_pos bx, if_pos by_, if_pos (hb.2 ⟨bx, by_⟩)]
        dsimp only
        have nx : ¬ chkF (putC x n p 5) ≠ 0 := fun q => q cx
        have ny : ¬ chkF (putC y n p 5) ≠ 0 := fun q => q cy
        rw [form _ y hy, form _ x hx, if_neg nx, if_neg ny, if_pos bx, if_pos by_]
        dsimp only
        rw [if_neg (by simp)]
        refine ⟨rfl, ?_, ?_⟩
        · rw [putC_5, putC_5, putC_5, putC_5]
          dsimp only
          have d0 := k0.2 hxy; have d1 := k1.2 hxy; have d2 := k2.2 hxy; have d3 := k3.2 hxy; have d4 := k4.2 hxy
          congr 1
          · revert d0; cases bitM x 0 <;> cases bitM y 0 <;> simp
          · revert d1; cases bitM x 1 <;> cases bitM y 1 <;> simp
          · revert d2; cases bitM x 2 <;> cases bitM y 2 <;> simp
          · revert d3; cases bitM x 3 <;> cases bitM y 3 <;> simp
          · revert d4; cases bitM x 4 <;> cases bitM y 4 <;> simp
        · rw [putC_5, putC_5, putC_5, k0.1, k1.1, k2.1, k3.1, k4.1]
          dsimp only
          congr 1
          · cases bitM x 0 <;> cases bitM y 0 <;> simp
          · cases bitM x 1 <;> cases bitM y 1 <;> simp
          · cases bitM x 2 <;> cases bitM y 2 <;> simp
          · cases bitM x 3 <;> cases bitM y 3 <;> simp
          · cases bitM x 4 <;> cases bitM y 4 <;> simp
      · rw [if_pos bx, if_neg by_, if_neg (fun q => by_ (hb.1 q).2)]
        dsimp only
        rw [if_pos (.inr (.inr (.inl by_)))]
        exact ⟨fun q => by_ (hb.1 q).2, rfl⟩
    · rw [if_neg bx, if_neg (fun q => bx (hb.1 q).1)]
      dsimp only
      rw [if_pos (.inl bx)]
      exact ⟨fun q => bx (hb.1 q).1, rfl⟩
  · rw [if_pos hc, if_pos hc, if_pos hc]
    dsimp only
    rw [if_pos (.inl hc)]
    exact ⟨hc, rfl⟩
/-! Clips -/
def quads : List Int → List RC
  | a :: b :: c :: d :: t => ⟨a, b, c, d⟩ :: quads t
  | _ => []
theorem quads_len : ∀ l : List Int, (quads l).length = l.length / 4
  | [] => rfl
  | [_] => by simp [quads]
  | [_, _] => by simp [quads]
  | [_, _, _] => by simp [quads]
  | a :: b :: c :: d :: t => by
    show (quads t).length + 1 = _
    rw [quads_len t]
    simp only [List.length_cons]; omega
theorem quads_at : ∀ (l : List Int) (i : Nat) (a b c d : Int), l[4 * i]? = some a → l[4 * i + 1]? = some b → l[4 * i + 2]? = some c → l[4 * i + 3]? = some d → (quads l)[i]? = some ⟨a, b, c, d⟩
  | [], i, _, _, _, _, h, _, _, _ => by simp at h
  | [x], i, _, _, _, _, _, h, _, _ => by simp at h
  | [x, y], i, _, _, _, _, _, _, h, _ => by simp at h
  | [x, y, z], i, _, _, _, _, _, _, _, h => by simp at h
  | x :: y :: z :: w :: t, 0, a, b, c, d, h1, h2, h3, h4 => by
    simp at h1 h2 h3 h4
    subst h1; subst h2; subst h3; subst h4; rfl
  | x :: y :: z :: w :: t, i + 1, a, b, c, d, h1, h2, h3, h4 => by
    show (quads t)[i]? = _
    refine quads_at t i a b c d ?_ ?_ ?_ ?_
    · rw [← h1, show 4 * (i + 1) = 4 * i + 4 by omega]; rfl
    · rw [← h2, show 4 * (i + 1) + 1 = 4 * i + 1 + 4 by omega]; rfl
    · rw [← h3, show 4 * (i + 1) + 2 = 4 * i + 2 + 4 by omega]; rfl
    · rw [← h4, show 4 * (i + 1) + 3 = 4 * i + 3 + 4 by omega]; rfl
def setF (p : PN) (x y : Int) (cl : Bool) (l : List Int) : PN × Int :=
  if chkF p ≠ 0 then (p, chkF p) else if ¬ (placeP x ∧ placeP y) then (p, 1) else if (cl = false ∧ 0 < l.length) ∨ l.length % 4 ≠ 0 then (p, 14) else if 1024 < l.length then (p, 5) else if allRt (quads l) = true then ({ p with x := x, y := y, cl := cl, clip := quads l }, 0) else (p, 1)
/-! Regions -/
def plP (w h : Int) : RC := ⟨0, 0, min w 65535, min h 65535⟩
def clP (p : PN) : List RC := p.clip.map (shR p.x p.y)
def regP (p : PN) (w h : Int) : List RC := if chkF p ≠ 0 then [] else if p.cl = false then ofF [plP w h] else joinJ (fun a b => a && b) (ofF (clP p)) (ofF [plP w h])
end Go.Proofs.Ytmfbfbhkjclhkaa

/- region's small closures. No condition. -/
namespace Go.Proofs.Ytmfbfbhkjclhkaa
open Go Go.VM
attribute [local irreducible] PurV Pur Step RL W D ACalls Then InBlock Fini
set_option linter.unusedVariables false
set_option linter.unusedSimpArgs false
set_option maxRecDepth 100000 in
theorem meet1_c (p q : Bool) (h : Heap) : ACalls Try.prog 68 [.val (.bool p), .val (.bool q)] h (fun r h' => r = .val (.bool (p && q)) ∧ h' = h) := by
  refine ACalls.intro Try.func68 rfl Try.ntmps68 Try.results68 (Nat.le_of_ble_eq_true rfl) ?_
  cases p <;> cases q <;> ((repeat' (first | (refine iS ?_; refine iMu ?_; refine S.mapU ?_) | refine svz ⟨fun b hq => ?_⟩ | refine sv1 ?_ | refine svs ⟨?_⟩ | refine svu ⟨fun u => ?_⟩ | (refine svg (fun hg => ?_) (fun hg => ?_) <;> try (exfalso; first | omega | contradiction)) | (refine svc (fun hc => ?_) (fun hc => ?_) <;> try (exfalso; first | omega | contradiction)) | refine sv2 ?_ | refine svh (fun hb => ?_) (fun hb => ?_) | refine svb (fun b => ?_) | refine sva ?_ | refine sv3 ?_)); exact fin_r (h' := h) ⟨rfl, rfl⟩)
set_option maxRecDepth 100000 in
theorem minus1_c (p q : Bool) (h : Heap) : ACalls Try.prog 66 [.val (.bool p), .val (.bool q)] h (fun r h' => r = .val (.bool (p && !q)) ∧ h' = h) := by
  refine ACalls.intro Try.func66 rfl Try.ntmps66 Try.results66 (Nat.le_of_ble_eq_true rfl) ?_
  cases p <;> cases q <;> ((repeat' (first | (refine iS ?_; refine iMu ?_; refine S.mapU ?_) | refine svz ⟨fun b hq => ?_⟩ | refine sv1 ?_ | refine svs ⟨?_⟩ | refine svu ⟨fun u => ?_⟩ | (refine svg (fun hg => ?_) (fun hg => ?_) <;> try (exfalso; first | omega | contradiction)) | (refine svc (fun hc => ?_) (fun hc => ?_) <;> try (exfalso; first | omega | contradiction)) | refine sv2 ?_ | refine svh (fun hb => ?_) (fun hb => ?_) | refine svb (fun b => ?_) | refine sva ?_ | refine sv3 ?_)); exact fin_r (h' := h) ⟨rfl, rfl⟩)
set_option maxRecDepth 100000 in
theorem tellY_c (r : RC) (h : Heap) : ACalls Try.prog 80 [r.enc] h (fun v h' => v = .tup [.val (.int .i64 r.y), .val (.int .i64 r.h)] ∧ h' = h) := by
  refine ACalls.intro Try.func80 rfl Try.ntmps80 Try.results80 (Nat.le_of_ble_eq_true rfl) ?_
  (repeat' (first | (refine iS ?_; refine iMu ?_; refine S.mapU ?_) | refine svz ⟨fun b hq => ?_⟩ | refine sv1 ?_ | refine svs ⟨?_⟩ | refine svu ⟨fun u => ?_⟩ | (refine svg (fun hg => ?_) (fun hg => ?_) <;> try (exfalso; first | omega | contradiction)) | (refine svc (fun hc => ?_) (fun hc => ?_) <;> try (exfalso; first | omega | contradiction)) | refine sv2 ?_ | refine svh (fun hb => ?_) (fun hb => ?_) | refine svb (fun b => ?_) | refine sva ?_ | refine sv3 ?_))
  exact fin_r (h' := h) ⟨rfl, rfl⟩
set_option maxRecDepth 100000 in
theorem tellX_c (r : RC) (h : Heap) : ACalls Try.prog 82 [r.enc] h (fun v h' => v = .tup [.val (.int .i64 r.x), .val (.int .i64 r.w)] ∧ h' = h) := by
  refine ACalls.intro Try.func82 rfl Try.ntmps82 Try.results82 (Nat.le_of_ble_eq_true rfl) ?_
  (repeat' (first | (refine iS ?_; refine iMu ?_; refine S.mapU ?_) | refine svz ⟨fun b hq => ?_⟩ | refine sv1 ?_ | refine svs ⟨?_⟩ | refine svu ⟨fun u => ?_⟩ | (refine svg (fun hg => ?_) (fun hg => ?_) <;> try (exfalso; first | omega | contradiction)) | (refine svc (fun hc => ?_) (fun hc => ?_) <;> try (exfalso; first | omega | contradiction)) | refine sv2 ?_ | refine svh (fun hb => ?_) (fun hb => ?_) | refine svb (fun b => ?_) | refine sva ?_ | refine sv3 ?_))
  exact fin_r (h' := h) ⟨rfl, rfl⟩
set_option maxRecDepth 100000 in
theorem moved_c (a n d : Int) (h : Heap) (ha : -4000000 ≤ a ∧ a ≤ 4000000) (hn : -4000000 ≤ n ∧ n ≤ 4000000) (hd : -4000000 ≤ d ∧ d ≤ 4000000) : ACalls Try.prog 44 [.val (.int .i64 a), .val (.int .i64 n), .val (.int .i64 d)] h
    (fun v h' => v = .tup [.val (.int .i64 (max (a + d) (-1048576))), .val (.int .i64 (min (a + d + n) 1048576 - max (a + d) (-1048576)))] ∧ h' = h) := by
  refine ACalls.intro Try.func44 rfl Try.ntmps44 Try.results44 (Nat.le_of_ble_eq_true rfl) ?_
  (repeat' (first | (refine iS ?_; refine iMu ?_; refine S.mapU ?_) | refine svz ⟨fun b hq => ?_⟩ | refine sv1 ?_ | refine svs ⟨?_⟩ | refine svu ⟨fun u => ?_⟩ | (refine svg (fun hg => ?_) (fun hg => ?_) <;> try (exfalso; first | omega | contradiction)) | (refine svc (fun hc => ?_) (fun hc => ?_) <;> try (exfalso; first | omega | contradiction)) | refine sv2 ?_ | refine svh (fun hb => ?_) (fun hb => ?_) | refine svb (fun b => ?_) | refine sva ?_ | refine sv3 ?_))
  exact fin_r (h' := h) ⟨rfl, rfl⟩
end Go.Proofs.Ytmfbfbhkjclhkaa
