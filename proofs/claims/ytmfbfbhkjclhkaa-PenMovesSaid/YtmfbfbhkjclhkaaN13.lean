/- Pens: SetClip as a whole. No condition. -/
import Derived.Test.YtmfbfbhkjclhkaaN12
namespace Go.Proofs.Ytmfbfbhkjclhkaa
open Go Go.VM
attribute [local irreducible] PurV Pur Step RL W D ACalls Then InBlock Fini
set_option linter.unusedVariables false
set_option linter.unusedSimpArgs false
set_option maxHeartbeats 20000000
set_option maxRecDepth 100000 in
theorem setclip_z (p : PN) (x y : Int) (h : Heap) (hl : p.clip.length ≤ 300) (h0 : chkF p = 0) (hp : placeP x ∧ placeP y) :
    ACalls Try.prog 16 [p.enc, .val (.int .i64 (x)), .val (.int .i64 (y)), .val (.bool false), .ro 1 (ints .i64 [])] h (fun r h' => ∃ v, r = .tup [(PN.encO { p with x := x, y := y, cl := false } v), .val (.int .i64 (0))] ∧ h' = .own v 4 (([] : List RC).map RC.enc) 43 :: h) := by
  have tw := fun h => twin_c p h hl
  have ck := fun h => chk_c p h hl
  have cx := fun h => isplace_c x h
  have cy := fun h => isplace_c y h
  rw [h0] at ck
  rw [decide_eq_true hp.1] at cx
  rw [decide_eq_true hp.2] at cy
  simp only [pn_enc] at *
  refine ACalls.intro Try.func16 rfl Try.ntmps16 Try.results16 (Nat.le_of_ble_eq_true rfl) ?_; (repeat' (first | (refine iS ?_; refine iMu ?_; refine S.mapU ?_) | refine svz ⟨fun b hq => ?_⟩ | refine sv1 ?_ | refine svs ⟨?_⟩ | refine svu ⟨fun u => ?_⟩ | (refine svg (fun hg => ?_) (fun hg => ?_) <;> try (exfalso; first | omega | contradiction)) | (refine svc (fun hc => ?_) (fun hc => ?_) <;> try (exfalso; first | omega | contradiction)) | refine sv2 ?_ | refine svh (fun hb => ?_) (fun hb => ?_) | refine svb (fun b => ?_) | refine sva ?_ | refine sv3 ?_)); refine S.call ?_; refine (tw _).mono ?_; rintro r h' ⟨rfl, hh⟩; subst hh; (repeat' (first | (refine iS ?_; refine iMu ?_; refine S.mapU ?_) | refine svz ⟨fun b hq => ?_⟩ | refine sv1 ?_ | refine svs ⟨?_⟩ | refine svu ⟨fun u => ?_⟩ | (refine svg (fun hg => ?_) (fun hg => ?_) <;> try (exfalso; first | omega | contradiction)) | (refine svc (fun hc => ?_) (fun hc => ?_) <;> try (exfalso; first | omega | contradiction)) | refine sv2 ?_ | refine svh (fun hb => ?_) (fun hb => ?_) | refine svb (fun b => ?_) | refine sva ?_ | refine sv3 ?_)); refine S.call ?_; refine (ck _).mono ?_; rintro r h' ⟨rfl, hh⟩; subst hh; (repeat' (first | (refine iS ?_; refine iMu ?_; refine S.mapU ?_) | refine svz ⟨fun b hq => ?_⟩ | refine sv1 ?_ | refine svs ⟨?_⟩ | refine svu ⟨fun u => ?_⟩ | (refine svg (fun hg => ?_) (fun hg => ?_) <;> try (exfalso; first | omega | contradiction)) | (refine svc (fun hc => ?_) (fun hc => ?_) <;> try (exfalso; first | omega | contradiction)) | refine sv2 ?_ | refine svh (fun hb => ?_) (fun hb => ?_) | refine svb (fun b => ?_) | refine sva ?_ | refine sv3 ?_)); refine S.call ?_; refine (cx _).mono ?_; rintro r h' ⟨rfl, hh⟩; subst hh; (repeat' (first | (refine iS ?_; refine iMu ?_; refine S.mapU ?_) | refine svz ⟨fun b hq => ?_⟩ | refine sv1 ?_ | refine svs ⟨?_⟩ | refine svu ⟨fun u => ?_⟩ | (refine svg (fun hg => ?_) (fun hg => ?_) <;> try (exfalso; first | omega | contradiction)) | (refine svc (fun hc => ?_) (fun hc => ?_) <;> try (exfalso; first | omega | contradiction)) | refine sv2 ?_ | refine svh (fun hb => ?_) (fun hb => ?_) | refine svb (fun b => ?_) | refine sva ?_ | refine sv3 ?_)); refine S.call ?_; refine (cy _).mono ?_; rintro r h' ⟨rfl, hh⟩; subst hh; (repeat' (first | (refine iS ?_; refine iMu ?_; refine S.mapU ?_) | refine svz ⟨fun b hq => ?_⟩ | refine sv1 ?_ | refine svs ⟨?_⟩ | refine svu ⟨fun u => ?_⟩ | (refine svg (fun hg => ?_) (fun hg => ?_) <;> try (exfalso; first | omega | contradiction)) | (refine svc (fun hc => ?_) (fun hc => ?_) <;> try (exfalso; first | omega | contradiction)) | refine sv2 ?_ | refine svh (fun hb => ?_) (fun hb => ?_) | refine svb (fun b => ?_) | refine sva ?_ | refine sv3 ?_))
  rename_i b5 b10 b11 _ _ _
  revert b; intro b13
  refine S.call ?_
  refine (chunk_c [] _).mono ?_
  rintro r' h' ⟨g1, g2, rfl, hh⟩; subst hh
  (repeat' (first | (refine iS ?_; refine iMu ?_; refine S.mapU ?_) | refine svz ⟨fun b hq => ?_⟩ | refine sv1 ?_ | refine svs ⟨?_⟩ | refine svu ⟨fun u => ?_⟩ | (refine svg (fun hg => ?_) (fun hg => ?_) <;> try (exfalso; first | omega | contradiction)) | (refine svc (fun hc => ?_) (fun hc => ?_) <;> try (exfalso; first | omega | contradiction)) | refine sv2 ?_ | refine svh (fun hb => ?_) (fun hb => ?_) | refine svb (fun b => ?_) | refine sva ?_ | refine sv3 ?_))
  have it := chunk_iter [] g1 g2 (by simp) rfl
  clear tw ck cx cy
  refine W.le (s' := ⟨115, [(60, .clo (.func 53) [.val (.pointer (some ⟨g1, 0, none⟩)), .val (.pointer (some ⟨g2, 0, none⟩))]), (13, .val (.pointer (some ⟨b13, 0, none⟩))), (11, .val (.pointer (some ⟨b11, 0, none⟩))), (10, .val (.pointer (some ⟨b10, 0, none⟩))), (5, .val (.pointer (some ⟨b5, 0, none⟩))), (1, .val (.int .i64 (x))), (2, .val (.int .i64 (y))), (3, .val (.bool false))], .box g2 [.val (.int .i64 (4))] 3 :: .box g1 [.ro 1 (ints .i64 ([] : List Int))] 28 :: .box b13 [.val u] 25 :: .own u 4 ((([] : List RC)).map RC.enc) 43 :: .box b11 [.val (.int .i64 (0))] 31 :: .box b10 [.val (.int .i64 (0)), .val (.int .u8 (0)), .val (.int .u8 (0)), .val (.int .u8 (0)), .val (.int .u32 0), .val (.int .i64 (0)), .val (.int .i64 (0)), .val (.bool false), .val (.slice none 0 0)] 27 :: .box b5 [.val (.int .i64 (p.fn)), .val (.int .u8 (p.pl)), .val (.int .u8 (p.fo)), .val (.int .u8 (p.ba)), .val (.int .u32 p.ft), .val (.int .i64 (p.x)), .val (.int .i64 (p.y)), .val (.bool p.cl), .ro 4 (p.clip.map RC.enc)] 27 :: h⟩) lee ?_
  refine W.range (fun k hh => ∃ v, hh = .box b13 [.val v] 25 :: .own v 4 ((([] : List RC)).map RC.enc) 43 :: .box b11 [.val (.int .i64 (0))] 31 :: .box b10 [.val (.int .i64 (0)), .val (.int .u8 (0)), .val (.int .u8 (0)), .val (.int .u8 (0)), .val (.int .u32 0), .val (.int .i64 (0)), .val (.int .i64 (0)), .val (.bool false), .val (.slice none 0 0)] 27 :: .box b5 [.val (.int .i64 (p.fn)), .val (.int .u8 (p.pl)), .val (.int .u8 (p.fo)), .val (.int .u8 (p.ba)), .val (.int .u32 p.ft), .val (.int .i64 (p.x)), .val (.int .i64 (p.y)), .val (.bool p.cl), .ro 4 (p.clip.map RC.enc)] 27 :: h) (fun c hh => False) it ⟨u, rfl⟩ ?_ ?_ (fun c h hf => hf.elim) (fun x hx => by cases hx) (by repeat (first | exact LeH.refl _ | exact LeH.nil _ | refine LeH.cons (by (fail_if_success (apply tkG)); (repeat (first | exact Tk.here | apply Tk.there)); first | done | fail) ?_ | refine LeH.boxw (by (fail_if_success (apply tkG)); (repeat (first | exact Tk.here | apply Tk.there)); first | done | fail) (by (repeat (first | exact Wk.refl _ | exact Wk.nilr _ | exact Wk.nilm | apply Wk.aggc | apply Wk.tupc | exact Wk.aggn | exact Wk.tupn)); first | done | fail) ?_ | refine LeH.skip ?_))
  · rintro lp k w hh ⟨v, rfl⟩ hw
    cases hw
  · rintro hh ⟨v, rfl⟩
    show InBlock _ _ _ ⟨_, _, .box g2 [.val (.int .i64 (4))] 3 :: .box g1 [.ro 1 (ints .i64 ([] : List Int))] 28 :: .box b13 [.val v] 25 :: .own v 4 ((([] : List RC)).map RC.enc) 43 :: .box b11 [.val (.int .i64 (0))] 31 :: .box b10 [.val (.int .i64 (0)), .val (.int .u8 (0)), .val (.int .u8 (0)), .val (.int .u8 (0)), .val (.int .u32 0), .val (.int .i64 (0)), .val (.int .i64 (0)), .val (.bool false), .val (.slice none 0 0)] 27 :: .box b5 [.val (.int .i64 (p.fn)), .val (.int .u8 (p.pl)), .val (.int .u8 (p.fo)), .val (.int .u8 (p.ba)), .val (.int .u32 p.ft), .val (.int .i64 (p.x)), .val (.int .i64 (p.y)), .val (.bool p.cl), .ro 4 (p.clip.map RC.enc)] 27 :: h⟩
    (repeat' ((fail_if_success (refine drg ?_)); (first | (refine iS ?_; refine iMu ?_; refine S.mapU ?_) | refine svz ⟨fun b hq => ?_⟩ | refine sv1 ?_ | refine svs ⟨?_⟩ | refine svu ⟨fun u => ?_⟩ | (refine svg (fun hg => ?_) (fun hg => ?_) <;> try (exfalso; first | omega | contradiction)) | (refine svc (fun hc => ?_) (fun hc => ?_) <;> try (exfalso; first | omega | contradiction)) | refine sv2 ?_ | refine svh (fun hb => ?_) (fun hb => ?_) | refine svb (fun b => ?_) | refine sva ?_ | refine sv3 ?_)))
    refine W.dr (.rw (.ro (.ro (.ro (.ro (.ro (.ro (.ro (.done _))))))))) ?_
    (repeat' (first | (refine iS ?_; refine iMu ?_; refine S.mapU ?_) | refine svz ⟨fun b hq => ?_⟩ | refine sv1 ?_ | refine svs ⟨?_⟩ | refine svu ⟨fun u => ?_⟩ | (refine svg (fun hg => ?_) (fun hg => ?_) <;> try (exfalso; first | omega | contradiction)) | (refine svc (fun hc => ?_) (fun hc => ?_) <;> try (exfalso; first | omega | contradiction)) | refine sv2 ?_ | refine svh (fun hb => ?_) (fun hb => ?_) | refine svb (fun b => ?_) | refine sva ?_ | refine sv3 ?_))
    exact fin_r (h' := .own v 4 (([] : List RC).map RC.enc) 43 :: h) ⟨v, rfl, rfl⟩
/-- SetClip: an error and the pen as it was, or the new pen with a clip of its own. -/
theorem setclip_o (p : PN) (x y : Int) (cl : Bool) (l : List Int) (h : Heap) (hl : p.clip.length ≤ 300) (hL : l.length ≤ 1100) :
    ACalls Try.prog 16 [p.enc, .val (.int .i64 (x)), .val (.int .i64 (y)), .val (.bool cl), .ro 1 (ints .i64 l)] h (fun r h' => ((setF p x y cl l).2 ≠ 0 ∧ (setF p x y cl l).1 = p ∧ r = .tup [p.enc, .val (.int .i64 ((setF p x y cl l).2))] ∧ h' = h) ∨ ((setF p x y cl l).2 = 0 ∧ ∃ v, r = .tup [(setF p x y cl l).1.encO v, .val (.int .i64 (0))] ∧ h' = .own v 4 ((setF p x y cl l).1.clip.map RC.enc) 43 :: h)) := by
  by_cases h0 : chkF p ≠ 0
  · rw [show setF p x y cl l = (p, chkF p) by unfold setF; rw [if_pos h0]]
    exact (setclip_e1 p x y cl l h hl hL h0).mono fun r h' q => .inl ⟨h0, rfl, q⟩
  have h0' : chkF p = 0 := by omega
  by_cases hp : ¬ (placeP x ∧ placeP y)
  · rw [show setF p x y cl l = (p, 1) by unfold setF; rw [if_neg h0, if_pos hp]]
    exact (setclip_e2 p x y cl l h hl hL h0' hp).mono fun r h' q => .inl ⟨(show (1 : Int) ≠ 0 by decide), rfl, q⟩
  have hp' : placeP x ∧ placeP y := Decidable.of_not_not hp
  by_cases hq : (cl = false ∧ 0 < l.length) ∨ l.length % 4 ≠ 0
  · rw [show setF p x y cl l = (p, 14) by unfold setF; rw [if_neg h0, if_neg hp, if_pos hq]]
    exact (setclip_e3 p x y cl l h hl hL h0' hp' hq).mono fun r h' q => .inl ⟨(show (14 : Int) ≠ 0 by decide), rfl, q⟩
  have h4 : l.length % 4 = 0 := by omega
  by_cases h5 : 1024 < l.length
  · have : cl = true := by cases cl with
      | true => rfl
      | false => exact absurd (.inl ⟨rfl, by omega⟩) hq
    subst this
    rw [show setF p x y true l = (p, 5) by unfold setF; rw [if_neg h0, if_neg hp, if_neg hq, if_pos h5]]
    exact (setclip_e4 p x y l h hl hL h0' hp' h4 h5).mono fun r h' q => .inl ⟨(show (5 : Int) ≠ 0 by decide), rfl, q⟩
  have e : setF p x y cl l = if allRt (quads l) = true then ({ p with x := x, y := y, cl := cl, clip := quads l }, 0) else (p, 1) := by unfold setF; rw [if_neg h0, if_neg hp, if_neg hq, if_neg h5]
  cases cl with
  | true =>
    refine (setclip_m p x y l h hl (by omega) h0' hp' h4).mono ?_
    rintro r h' (⟨g, v, rfl, rfl⟩ | ⟨g, rfl, rfl⟩)
    · rw [if_pos g] at e
      rw [e]
      exact .inr ⟨rfl, v, rfl, rfl⟩
    · rw [if_neg (by rw [g]; decide)] at e
      rw [e]
      exact .inl ⟨(show (1 : Int) ≠ 0 by decide), rfl, rfl, rfl⟩
  | false =>
    have : l = [] := List.length_eq_zero_iff.1 (by
      rcases Nat.eq_zero_or_pos l.length with g | g
      · exact g
      · exact absurd (.inl ⟨rfl, g⟩) hq)
    subst this
    rw [if_pos (show allRt (quads []) = true from rfl)] at e
    rw [e]
    refine (setclip_z p x y h hl h0' hp').mono ?_
    rintro r h' ⟨v, rfl, rfl⟩
    exact .inr ⟨rfl, v, rfl, rfl⟩
theorem setclip_c (p : PN) (x y : Int) (cl : Bool) (l : List Int) (h : Heap) (hl : p.clip.length ≤ 300) (hL : l.length ≤ 1100) :
    ACalls Try.prog 16 [p.enc, .val (.int .i64 (x)), .val (.int .i64 (y)), .val (.bool cl), .ro 1 (ints .i64 l)] h (fun r h' => r = .tup [(setF p x y cl l).1.enc, .val (.int .i64 ((setF p x y cl l).2))] ∧ h' = h) := by
  refine (setclip_o p x y cl l h hl hL).frzo ?_
  rintro r h' (⟨g, e, rfl, rfl⟩ | ⟨g, v, rfl, rfl⟩)
  · rw [e]; exact .inl ⟨rfl, rfl⟩
  · rw [g]
    refine .inr ⟨v, 4, _, _, .tup [(setF p x y cl l).1.enc, .val (.int .i64 (0))], h, .here, ?_, rfl, rfl⟩
    unfold PN.encO
    rw [pn_enc]
    exact .tupc (.aggc (.keep _) (.aggc (.keep _) (.aggc (.keep _) (.aggc (.keep _) (.aggc (.keep _) (.aggc (.keep _) (.aggc (.keep _) (.aggc (.keep _) (.aggc .hit .aggn))))))))) (.tupc (.keep _) .tupn)
end Go.Proofs.Ytmfbfbhkjclhkaa
