import Derived.Test.YtdknjjgmmmmfjaaC5
import Derived.Test.YtdknjjgmmmmfjaaW1
/- region's functions: Union, Meet, Minus, Xor, Within, Inside, Shift. No condition. -/
namespace Go.Proofs.Ytdknjjgmmmmfjaa
open Go Go.VM
attribute [local irreducible] PurV Pur Step RL W D ACalls Then InBlock Fini
set_option linter.unusedVariables false
set_option linter.unusedSimpArgs false
set_option maxHeartbeats 20000000
set_option maxRecDepth 100000 in
theorem rects_o (l : List RC) (h : Heap) (hl : l.length ≤ 1000000000000) : ACalls Try.prog 25 [regE l] h (fun r h' => ∃ v, r = .val v ∧ h' = .own v 4 (l.map RC.enc) 43 :: h) := by
  refine ACalls.nilo (Q := fun r h' => (r = .val (.slice none 0 0) ∧ l = [] ∧ h' = h) ∨ ∃ v, r = .val v ∧ h' = .own v 4 (l.map RC.enc) 43 :: h) ?_ ?_
  · unfold regE
    refine ACalls.intro Try.func25 rfl Try.ntmps25 Try.results25 (Nat.le_of_ble_eq_true rfl) ?_
    (repeat' (first | (refine iS ?_; refine iMu ?_; refine S.mapU ?_) | refine svz ⟨fun b hq => ?_⟩ | refine sv1 ?_ | refine svs ⟨?_⟩ | refine svu ⟨fun u => ?_⟩ | (refine svg (fun hg => ?_) (fun hg => ?_) <;> try (exfalso; first | omega | contradiction)) | (refine svc (fun hc => ?_) (fun hc => ?_) <;> try (exfalso; first | omega | contradiction)) | refine sv2 ?_ | refine svh (fun hb => ?_) (fun hb => ?_) | refine svb (fun b => ?_) | refine sva ?_ | refine sv3 ?_))
    refine S.call ?_
    refine (clone_c0 l _ hl).mono ?_
    rintro r h' (⟨rfl, e, hh⟩ | ⟨v, rfl, hh⟩) <;> subst hh
    · (repeat' (first | (refine iS ?_; refine iMu ?_; refine S.mapU ?_) | refine svz ⟨fun b hq => ?_⟩ | refine sv1 ?_ | refine svs ⟨?_⟩ | refine svu ⟨fun u => ?_⟩ | (refine svg (fun hg => ?_) (fun hg => ?_) <;> try (exfalso; first | omega | contradiction)) | (refine svc (fun hc => ?_) (fun hc => ?_) <;> try (exfalso; first | omega | contradiction)) | refine sv2 ?_ | refine svh (fun hb => ?_) (fun hb => ?_) | refine svb (fun b => ?_) | refine sva ?_ | refine sv3 ?_))
      exact fin_r (h' := h) (.inl ⟨rfl, e, rfl⟩)
    · (repeat' (first | (refine iS ?_; refine iMu ?_; refine S.mapU ?_) | refine svz ⟨fun b hq => ?_⟩ | refine sv1 ?_ | refine svs ⟨?_⟩ | refine svu ⟨fun u => ?_⟩ | (refine svg (fun hg => ?_) (fun hg => ?_) <;> try (exfalso; first | omega | contradiction)) | (refine svc (fun hc => ?_) (fun hc => ?_) <;> try (exfalso; first | omega | contradiction)) | refine sv2 ?_ | refine svh (fun hb => ?_) (fun hb => ?_) | refine svb (fun b => ?_) | refine sva ?_ | refine sv3 ?_))
      exact fin_r (h' := .own v 4 (l.map RC.enc) 43 :: h) (.inr ⟨v, rfl, rfl⟩)
  · rintro r h' (⟨rfl, e, rfl⟩ | ⟨v, rfl, rfl⟩)
    · exact .inr ⟨4, 43, _, rfl, by rw [e]; rfl⟩
    · exact .inl ⟨v, rfl, rfl⟩
set_option maxRecDepth 100000 in
theorem meet_c (A B : List RC) (h : Heap) (ok : JOk A B) : ACalls Try.prog 49 [regE A, regE B] h (fun r h' => r = regE (joinJ (fun p q => p && q) A B) ∧ h' = h) := by
  have hj := fun h => join_c (fun p q => p && q) 72 (fun p q h => meet1_c p q h) A B h ok
  unfold regE at *
  refine ACalls.intro Try.func49 rfl Try.ntmps49 Try.results49 (Nat.le_of_ble_eq_true rfl) ?_
  (repeat' (first | (refine iS ?_; refine iMu ?_; refine S.mapU ?_) | refine svz ⟨fun b hq => ?_⟩ | refine sv1 ?_ | refine svs ⟨?_⟩ | refine svu ⟨fun u => ?_⟩ | (refine svg (fun hg => ?_) (fun hg => ?_) <;> try (exfalso; first | omega | contradiction)) | (refine svc (fun hc => ?_) (fun hc => ?_) <;> try (exfalso; first | omega | contradiction)) | refine sv2 ?_ | refine svh (fun hb => ?_) (fun hb => ?_) | refine svb (fun b => ?_) | refine sva ?_ | refine sv3 ?_))
  refine S.call ?_; refine (hj _).mono ?_; rintro r h' ⟨rfl, hh⟩; subst hh
  (repeat' (first | (refine iS ?_; refine iMu ?_; refine S.mapU ?_) | refine svz ⟨fun b hq => ?_⟩ | refine sv1 ?_ | refine svs ⟨?_⟩ | refine svu ⟨fun u => ?_⟩ | (refine svg (fun hg => ?_) (fun hg => ?_) <;> try (exfalso; first | omega | contradiction)) | (refine svc (fun hc => ?_) (fun hc => ?_) <;> try (exfalso; first | omega | contradiction)) | refine sv2 ?_ | refine svh (fun hb => ?_) (fun hb => ?_) | refine svb (fun b => ?_) | refine sva ?_ | refine sv3 ?_))
  exact fin_r (h' := h) ⟨rfl, rfl⟩
set_option maxRecDepth 100000 in
theorem minus_c (A B : List RC) (h : Heap) (ok : JOk A B) : ACalls Try.prog 48 [regE A, regE B] h (fun r h' => r = regE (joinJ (fun p q => p && !q) A B) ∧ h' = h) := by
  have hj := fun h => join_c (fun p q => p && !q) 70 (fun p q h => minus1_c p q h) A B h ok
  unfold regE at *
  refine ACalls.intro Try.func48 rfl Try.ntmps48 Try.results48 (Nat.le_of_ble_eq_true rfl) ?_
  (repeat' (first | (refine iS ?_; refine iMu ?_; refine S.mapU ?_) | refine svz ⟨fun b hq => ?_⟩ | refine sv1 ?_ | refine svs ⟨?_⟩ | refine svu ⟨fun u => ?_⟩ | (refine svg (fun hg => ?_) (fun hg => ?_) <;> try (exfalso; first | omega | contradiction)) | (refine svc (fun hc => ?_) (fun hc => ?_) <;> try (exfalso; first | omega | contradiction)) | refine sv2 ?_ | refine svh (fun hb => ?_) (fun hb => ?_) | refine svb (fun b => ?_) | refine sva ?_ | refine sv3 ?_))
  refine S.call ?_; refine (hj _).mono ?_; rintro r h' ⟨rfl, hh⟩; subst hh
  (repeat' (first | (refine iS ?_; refine iMu ?_; refine S.mapU ?_) | refine svz ⟨fun b hq => ?_⟩ | refine sv1 ?_ | refine svs ⟨?_⟩ | refine svu ⟨fun u => ?_⟩ | (refine svg (fun hg => ?_) (fun hg => ?_) <;> try (exfalso; first | omega | contradiction)) | (refine svc (fun hc => ?_) (fun hc => ?_) <;> try (exfalso; first | omega | contradiction)) | refine sv2 ?_ | refine svh (fun hb => ?_) (fun hb => ?_) | refine svb (fun b => ?_) | refine sva ?_ | refine sv3 ?_))
  exact fin_r (h' := h) ⟨rfl, rfl⟩
set_option maxRecDepth 100000 in
theorem within_c (A : List RC) (c : RC) (h : Heap) (hc : c.ok) (ok : JOk A (ofF [c])) : ACalls Try.prog 57 [regE A, c.enc] h (fun r h' => r = regE (joinJ (fun p q => p && q) A (ofF [c])) ∧ h' = h) := by
  have hm := meet_c A (ofF [c])
  have ho := of_c [c]
  unfold regE at *
  show ACalls Try.prog 57 [_, .agg [.val (.int .i64 c.x), .val (.int .i64 c.y), .val (.int .i64 c.w), .val (.int .i64 c.h)]] h _
  refine ACalls.intro Try.func57 rfl Try.ntmps57 Try.results57 (Nat.le_of_ble_eq_true rfl) ?_
  (repeat' (first | (refine iS ?_; refine iN ?_; first | refine S.build1r ?_ | refine S.build2r ?_ | refine S.build3r ?_) | (refine iR2 ?_; refine r2b ?_; refine R2.one ?_) | (refine iS ?_; refine iMu ?_; refine S.mapU ?_) | refine svz ⟨fun b hq => ?_⟩ | refine sv1 ?_ | refine svs ⟨?_⟩ | refine svu ⟨fun u => ?_⟩ | (refine svg (fun hg => ?_) (fun hg => ?_) <;> try (exfalso; first | omega | contradiction)) | (refine svc (fun hc => ?_) (fun hc => ?_) <;> try (exfalso; first | omega | contradiction)) | refine sv2 ?_ | refine svh (fun hb => ?_) (fun hb => ?_) | refine svb (fun b => ?_) | refine sva ?_ | refine sv3 ?_))
  refine R2.C (ho _ (by simp) (by simpa using hc)) ?_
  (repeat' (first | (refine iS ?_; refine iN ?_; first | refine S.build1r ?_ | refine S.build2r ?_ | refine S.build3r ?_) | (refine iR2 ?_; refine r2b ?_; refine R2.one ?_) | (refine iS ?_; refine iMu ?_; refine S.mapU ?_) | refine svz ⟨fun b hq => ?_⟩ | refine sv1 ?_ | refine svs ⟨?_⟩ | refine svu ⟨fun u => ?_⟩ | (refine svg (fun hg => ?_) (fun hg => ?_) <;> try (exfalso; first | omega | contradiction)) | (refine svc (fun hc => ?_) (fun hc => ?_) <;> try (exfalso; first | omega | contradiction)) | refine sv2 ?_ | refine svh (fun hb => ?_) (fun hb => ?_) | refine svb (fun b => ?_) | refine sva ?_ | refine sv3 ?_))
  refine R2.C (hm _ ok) ?_
  (repeat' (first | (refine iS ?_; refine iN ?_; first | refine S.build1r ?_ | refine S.build2r ?_ | refine S.build3r ?_) | (refine iR2 ?_; refine r2b ?_; refine R2.one ?_) | (refine iS ?_; refine iMu ?_; refine S.mapU ?_) | refine svz ⟨fun b hq => ?_⟩ | refine sv1 ?_ | refine svs ⟨?_⟩ | refine svu ⟨fun u => ?_⟩ | (refine svg (fun hg => ?_) (fun hg => ?_) <;> try (exfalso; first | omega | contradiction)) | (refine svc (fun hc => ?_) (fun hc => ?_) <;> try (exfalso; first | omega | contradiction)) | refine sv2 ?_ | refine svh (fun hb => ?_) (fun hb => ?_) | refine svb (fun b => ?_) | refine sva ?_ | refine sv3 ?_))
  exact fin_r (h' := h) ⟨rfl, rfl⟩
end Go.Proofs.Ytdknjjgmmmmfjaa

/- A region's box; places counted in a rectangle. No condition. -/
namespace Go.Proofs.Ytdknjjgmmmmfjaa
open Go Go.VM
set_option linter.unusedVariables false
set_option linter.unusedSimpArgs false
theorem minX_le : ∀ (l : List RC) (a : Int), minX a l ≤ a ∧ (∀ r ∈ l, minX a l ≤ r.x) ∧ (minX a l = a ∨ ∃ r ∈ l, minX a l = r.x)
  | [], a => ⟨Int.le_refl _, fun r hr => absurd hr (by simp), .inl rfl⟩
  | q :: l, a => by
    have e : minX a (q :: l) = minX (min a q.x) l := rfl
    obtain ⟨h1, h2, h3⟩ := minX_le l (min a q.x)
    rw [e]
    refine ⟨by omega, fun r hr => ?_, ?_⟩
    · rcases List.mem_cons.1 hr with rfl | hr
      · omega
      · exact h2 r hr
    · rcases h3 with h3 | ⟨r, hr, h3⟩
      · by_cases hq : a ≤ q.x
        · left; omega
        · exact .inr ⟨q, .head _, by omega⟩
      · exact .inr ⟨r, .tail _ hr, h3⟩
theorem maxX_le : ∀ (l : List RC) (a : Int), a ≤ maxX a l ∧ (∀ r ∈ l, r.x + r.w ≤ maxX a l) ∧ (maxX a l = a ∨ ∃ r ∈ l, maxX a l = r.x + r.w)
  | [], a => ⟨Int.le_refl _, fun r hr => absurd hr (by simp), .inl rfl⟩
  | q :: l, a => by
    have e : maxX a (q :: l) = maxX (max a (q.x + q.w)) l := rfl
    obtain ⟨h1, h2, h3⟩ := maxX_le l (max a (q.x + q.w))
    rw [e]
    refine ⟨by omega, fun r hr => ?_, ?_⟩
    · rcases List.mem_cons.1 hr with rfl | hr
      · omega
      · exact h2 r hr
    · rcases h3 with h3 | ⟨r, hr, h3⟩
      · by_cases hq : q.x + q.w ≤ a
        · left; omega
        · exact .inr ⟨q, .head _, by omega⟩
      · exact .inr ⟨r, .tail _ hr, h3⟩
theorem last_of {α : Type} {R : α → α → Prop} {a d : α} {l : List α} (h : (a :: l).Pairwise R) : (a :: l).getLastD d ∈ a :: l ∧ ∀ r ∈ a :: l, r = (a :: l).getLastD d ∨ R r ((a :: l).getLastD d) := by
  have hne : a :: l ≠ [] := by simp
  have e : (a :: l).getLastD d = (a :: l).getLast hne := by simp [List.getLastD, List.getLast?_eq_some_getLast]
  rw [e]
  refine ⟨List.getLast_mem hne, fun r hr => ?_⟩
  have hd := List.dropLast_concat_getLast hne
  rw [← hd, List.pairwise_append] at h
  rw [← hd] at hr
  rcases List.mem_append.1 hr with hr | hr
  · exact .inr (h.2.2 r hr _ (List.mem_singleton.2 rfl))
  · exact .inl (List.mem_singleton.1 hr)
theorem boxF_has {m : List RC} (hc : ∀ r ∈ m, r.cnt) (hf : m.Pairwise fol) {x y : Int} (h : hasR m x y = true) :
    ((boxF m).x ≤ x ∧ x < (boxF m).x + (boxF m).w ∧ InM (boxF m).x ∧ InM ((boxF m).x + (boxF m).w)) ∧ (boxF m).y ≤ y ∧ y < (boxF m).y + (boxF m).h ∧ InM (boxF m).y ∧ InM ((boxF m).y + (boxF m).h) := by
  cases m with
  | nil => cases h
  | cons f l =>
    obtain ⟨r, hr, h1, h2, h3, h4⟩ := hasR_iff.1 h
    obtain ⟨n1, n2, n3⟩ := minX_le (f :: l) f.x
    obtain ⟨p1, p2, p3⟩ := maxX_le (f :: l) (f.x + f.w)
    obtain ⟨m1, m2⟩ := last_of (d := f) hf
    have n2r := n2 r hr
    have p2r := p2 r hr
    have hcf := hc f (.head _)
    have hfx : InM f.x := by obtain ⟨⟨a1, a2, a3⟩, ⟨a4, a5, a6⟩⟩ := hcf; unfold InM; omega
    have hfw : InM (f.x + f.w) := by obtain ⟨⟨a1, a2, a3⟩, ⟨a4, a5, a6⟩⟩ := hcf; unfold InM; omega
    have i1 := minX_in hfx (f :: l) hc
    have i2 := maxX_in hfw (f :: l) hc
    have hyr : f.y ≤ r.y := by
      rcases List.mem_cons.1 hr with rfl | hr
      · exact Int.le_refl _
      · have := hcf.2.2.1
        rcases (List.pairwise_cons.1 hf).1 r hr with ⟨k1, _⟩ | k1 <;> omega
    unfold boxF
    simp only
    generalize (f :: l).getLastD f = e at *
    generalize minX f.x (f :: l) = mi at *
    generalize maxX (f.x + f.w) (f :: l) = ma at *
    have hce := hc e m1
    obtain ⟨⟨a1, a2, a3⟩, ⟨a4, a5, a6⟩⟩ := hcf
    obtain ⟨⟨c1, c2, c3⟩, ⟨c4, c5, c6⟩⟩ := hce
    have hye : r.y + r.h ≤ e.y + e.h := by
      rcases m2 r hr with rfl | ⟨k1, k2, _⟩ | k1
      · exact Int.le_refl _
      · omega
      · omega
    unfold InM at *
    refine ⟨⟨?_, ?_, ?_, ?_⟩, ?_, ?_, ?_, ?_⟩ <;> omega
/-! Places of a rectangle, counted row by row -/
def gridR (x0 y0 : Int) (w h : Nat) (p : Int → Int → Bool) : Int := sumI h fun i => sumI w fun j => ind (p (x0 + (j : Int)) (y0 + (i : Int)))
def cntR (x0 y0 : Int) (w : Nat) (p : Int → Int → Bool) (i j : Nat) : Int := (sumI i fun i' => sumI w fun j' => ind (p (x0 + (j' : Int)) (y0 + (i' : Int)))) + sumI j fun j' => ind (p (x0 + (j' : Int)) (y0 + (i : Int)))
theorem cntR_j {x0 y0 : Int} {w : Nat} {p : Int → Int → Bool} {i j : Nat} : cntR x0 y0 w p i (j + 1) = cntR x0 y0 w p i j + ind (p (x0 + (j : Int)) (y0 + (i : Int))) := by
  unfold cntR; rw [Int.add_assoc]; rfl
theorem cntR_i {x0 y0 : Int} {w : Nat} {p : Int → Int → Bool} {i : Nat} : cntR x0 y0 w p (i + 1) 0 = cntR x0 y0 w p i w := by
  unfold cntR
  have : ∀ f, sumI 0 f = 0 := fun f => rfl
  rw [this, Int.add_zero]; rfl
theorem cntR_end {x0 y0 : Int} {w h : Nat} {p : Int → Int → Bool} : cntR x0 y0 w p h 0 = gridR x0 y0 w h p := by
  unfold cntR gridR
  have : ∀ f, sumI 0 f = 0 := fun f => rfl
  rw [this, Int.add_zero]
theorem cntR_in {x0 y0 : Int} {w : Nat} {p : Int → Int → Bool} {i j : Nat} : 0 ≤ cntR x0 y0 w p i j ∧ cntR x0 y0 w p i j ≤ i * w + j := by
  unfold cntR
  have h1 := sumI_low (n := i) (f := fun i' => sumI w fun j' => ind (p (x0 + (j' : Int)) (y0 + (i' : Int)))) fun i' _ => sumI_low fun j' _ => (ind_in _).1
  have h2 := sumI_low (n := j) (f := fun j' => ind (p (x0 + (j' : Int)) (y0 + (i : Int)))) fun j' _ => (ind_in _).1
  have h3 := sumI_top (n := i) (f := fun i' => sumI w fun j' => ind (p (x0 + (j' : Int)) (y0 + (i' : Int)))) (c := w) fun i' _ => by
    have := sumI_top (n := w) (f := fun j' => ind (p (x0 + (j' : Int)) (y0 + (i' : Int)))) (c := 1) fun j' _ => (ind_in _).2
    omega
  have h4 := sumI_top (n := j) (f := fun j' => ind (p (x0 + (j' : Int)) (y0 + (i : Int)))) (c := 1) fun j' _ => (ind_in _).2
  omega
theorem sumI_cut {f : Nat → Int} {h : Nat} : ∀ {n : Nat}, h ≤ n → (∀ i, h ≤ i → i < n → f i = 0) → sumI n f = sumI h f
  | 0, hn, _ => by rw [show h = 0 by omega]
  | n + 1, hn, hf => by
    rcases Nat.lt_or_ge n h with q | q
    · rw [show h = n + 1 by omega]
    · have e : sumI (n + 1) f = sumI n f + f n := rfl
      rw [e, hf n q (by omega), Int.add_zero, sumI_cut q fun i h1 h2 => hf i h1 (by omega)]
theorem fol_sh {a b : RC} {dx dy : Int} (h : fol a b) : fol (shR dx dy a) (shR dx dy b) := by
  unfold fol shR at *
  dsimp only
  omega
theorem areaF_gridR {x0 y0 : Int} {w h : Nat} {m : List RC} (hm : Can m) (hw : w ≤ 1000000) (hh : h ≤ 1000000) (hb : ∀ r ∈ m, (x0 ≤ r.x ∧ r.x + r.w ≤ x0 + w) ∧ y0 ≤ r.y ∧ r.y + r.h ≤ y0 + h) : areaF m = gridR x0 y0 w h (hasR m) := by
  have hc : ∀ r ∈ m.map (shR (-x0) (-y0)), r.cnt := fun r hr => by
    obtain ⟨q, hq, rfl⟩ := List.mem_map.1 hr
    have h1 := hb q hq
    obtain ⟨⟨_, h2, _⟩, _, h3, _⟩ := hm.cnt q hq
    unfold RC.cnt fitP shR
    dsimp only
    omega
  have hf : (m.map (shR (-x0) (-y0))).Pairwise fol := by rw [List.pairwise_map]; exact hm.fol.imp fol_sh
  have hbb : ∀ r ∈ m.map (shR (-x0) (-y0)), (0 ≤ r.x ∧ r.x + r.w ≤ w) ∧ 0 ≤ r.y ∧ r.y + r.h ≤ h := fun r hr => by
    obtain ⟨q, hq, rfl⟩ := List.mem_map.1 hr
    have h1 := hb q hq
    unfold shR
    dsimp only
    omega
  rw [← area_sh m (-x0) (-y0), areaF_grid (K := 0) (n := w + h) hc hf (fun r hr => by have := hbb r hr; push_cast; omega)]
  have hv : ∀ i j : Nat, hasR (m.map (shR (-x0) (-y0))) ((j : Int) - 0) ((i : Int) - 0) = hasR m (x0 + (j : Int)) (y0 + (i : Int)) := fun i j => by
    rw [← has_sh m (-x0) (-y0) (x0 + (j : Int)) (y0 + (i : Int)), show x0 + (j : Int) + -x0 = (j : Int) - 0 by omega, show y0 + (i : Int) + -y0 = (i : Int) - 0 by omega]
  have hz : ∀ i j : Nat, (w ≤ j ∨ h ≤ i) → hasR m (x0 + (j : Int)) (y0 + (i : Int)) = false := fun i j hij => hasR_none fun r hr hh => by
    have := hb r hr
    unfold RC.has at hh
    omega
  unfold grid gridR
  rw [sumI_cut (h := h) (by omega) fun i h1 h2 => sumI_zero fun j _ => by rw [hv, hz i j (.inr h1)]; rfl]
  refine sumI_congr fun i hi => ?_
  rw [sumI_cut (h := w) (by omega) fun j h1 h2 => by rw [hv, hz i j (.inl h1)]; rfl]
  exact sumI_congr fun j hj => by rw [hv]
end Go.Proofs.Ytdknjjgmmmmfjaa
