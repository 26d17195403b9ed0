import Derived.Test.YtbknacpdcdkjiaaGreatVR3
import Derived.Test.YtbknacpdcdkjiaaGreatF36
/- What came in, told as lists. No condition. -/
namespace Go.Proofs.YtbknacpdcdkjiaaGreat
open Go Go.VM
set_option linter.unusedVariables false
set_option linter.unusedSimpArgs false
theorem wf_u8 {n : Int} (h : (Lit.int .u8 n).wf = true) : 0 ≤ n ∧ n ≤ 255 := by
  simp [Lit.wf, IntKind.min, IntKind.max, IntKind.signed, IntKind.bits] at h; omega
theorem wf_i8 {n : Int} (h : (Lit.int .i8 n).wf = true) : -128 ≤ n ∧ n ≤ 127 := by
  simp [Lit.wf, IntKind.min, IntKind.max, IntKind.signed, IntKind.bits] at h; omega
theorem list_of {α : Type} {f : α → AV} {Q : α → Prop} : ∀ {es : List AV}, (∀ x ∈ es, ∃ a, x = f a ∧ Q a) → ∃ l : List α, es = l.map f ∧ ∀ a ∈ l, Q a
  | [], _ => ⟨[], rfl, by simp⟩
  | x :: es, h => by
    obtain ⟨a, rfl, ha⟩ := h x (.head _)
    obtain ⟨l, rfl, hl⟩ := list_of (fun y hy => h y (.tail _ hy))
    exact ⟨a :: l, rfl, by simpa using ⟨ha, hl⟩⟩
theorem fit_sl {α : Type} {f : α → AV} {Q : α → Prop} {N k : Nat} {e : Sh} {x : AV} (h : FitE N (.sl k e) x) (he : ∀ y, FitE N e y → ∃ a, y = f a ∧ Q a) : ∃ l : List α, x = .ro k (l.map f) ∧ l.length ≤ N ∧ ∀ a ∈ l, Q a := by
  simp only [FitE, FitB, Sh.isSt, Bool.false_eq_true, if_false, Fits] at h
  obtain ⟨es, h1, h2, h3⟩ := h
  injection h1 with h1 _
  subst h1
  obtain ⟨l, rfl, hl⟩ := list_of (f := f) (Q := Q) (fun y hy => he y (h3 y hy))
  exact ⟨l, rfl, by simpa using h2, hl⟩
theorem fit_int {N : Nat} {k : IntKind} {x : AV} (h : FitE N (.int k) x) : ∃ n, x = .val (.int k n) ∧ (Lit.int k n).wf = true := by
  simp only [FitE, FitB, Sh.isSt, Bool.false_eq_true, if_false, Fits] at h
  obtain ⟨n, h1, h2⟩ := h
  injection h1 with h1 _
  exact ⟨n, h1, h2⟩
theorem fit_bool {N : Nat} {x : AV} (h : FitE N .bool x) : ∃ b, x = .val (.bool b) := by
  simp only [FitE, FitB, Sh.isSt, Bool.false_eq_true, if_false, Fits] at h
  obtain ⟨n, h1⟩ := h
  injection h1 with h1 _
  exact ⟨n, h1⟩
theorem fit_ints {N : Nat} {k : IntKind} {x : AV} (h : FitE N (.sl 1 (.int k)) x) : ∃ l : List Int, x = .ro 1 (ints k l) ∧ l.length ≤ N ∧ ∀ n ∈ l, (Lit.int k n).wf = true :=
  fit_sl h (fun y hy => fit_int hy)
end Go.Proofs.YtbknacpdcdkjiaaGreat

/- What comes in; TopFocus. No condition. -/
namespace Go.Proofs.YtbknacpdcdkjiaaGreat
open Go Go.VM
attribute [local irreducible] PurV Pur Step RL W D ACalls Then InBlock Fini
set_option linter.unusedVariables false
set_option linter.unusedSimpArgs false
set_option maxHeartbeats 4000000
theorem fw_fit {N : Nat} {x : AV} (h : FitE N (.fld 1 (.int .u8) (.fld 1 (.bool) (.fld 1 (.int .u8) (.fld 1 (.bool) (.fld 1 (.int .i8) (.fld 1 (.int .i8) (.nil))))))) x) : ∃ a : FW, x = a.enc ∧ a.Ok := by
  obtain ⟨_, rfl, _, _, rfl, _, ⟨a, rfl, ha⟩, _, _, rfl, _, ⟨b, rfl⟩, _, _, rfl, _, ⟨c, rfl, hc⟩, _, _, rfl, _, ⟨d, rfl⟩, _, _, rfl, _, ⟨e, rfl, he⟩, _, _, rfl, _, ⟨f, rfl, hf⟩, rfl⟩ := h
  exact ⟨⟨a, b, c, d, e, f⟩, rfl, wf_u8 ha, wf_u8 hc, wf_i8 he, wf_i8 hf⟩
theorem focus_row : ∀ l, FitAll maxLen [.sl 6 (.fld 1 (.int .u8) (.fld 1 (.bool) (.fld 1 (.int .u8) (.fld 1 (.bool) (.fld 1 (.int .i8) (.fld 1 (.int .i8) (.nil))))))), .int .u8, .int .u8, .int .u8, .sl 1 (.int .u8), .bool] l → ACalls Tryz.prog 3 l [] (fun r h' => r = .val (.bool true)) := by
  rintro l ⟨x, _, rfl, hx, xa, _, rfl, ha, xb, _, rfl, hb, xc, _, rfl, hc0, y, _, rfl, hy, xd, _, rfl, hd, rfl⟩
  obtain ⟨a, rfl, ha1⟩ := fit_int ha
  obtain ⟨b, rfl, hb1⟩ := fit_int hb
  obtain ⟨c, rfl, hc1⟩ := fit_int hc0
  obtain ⟨d, rfl⟩ := fit_bool hd
  obtain ⟨l, rfl, hl1, hl⟩ := fit_sl (f := FW.enc) (Q := FW.Ok) hx (fun y hy => fw_fit hy)
  obtain ⟨m, rfl, hm1, hm⟩ := fit_ints hy
  exact (tfocus_c l a b c m d [] hl1 hl (wf_u8 ha1) (wf_u8 hb1) (wf_u8 hc1) hm1 (fun k hk => wf_u8 (hm k hk))).mono (by rintro r h' ⟨rfl, _⟩; rfl)
end Go.Proofs.YtbknacpdcdkjiaaGreat

/- 'TopFocus' answers true for every input and leaves what came in as it was. No condition. -/
namespace Go.Proofs.YtbknacpdcdkjiaaGreat.topFocusDone
open Go Go.VM Go.RowKit Go.ChangeShapes Go.WideShapes Go.ChangeAt
set_option linter.unusedVariables false
set_option linter.unusedSimpArgs false
theorem own : ownKnob Tryz.prog.godebug = none := by kernel_rfl
theorem laidOut : laidOutB Tryz.prog = true := by kernel_rfl
set_option maxRecDepth 100000 in
theorem shapes : ([22, 5, 5, 5, 23, 4] : List Nat).map (shOf Tryz.prog 20) = ([.sl 6 (.fld 1 (.int .u8) (.fld 1 (.bool) (.fld 1 (.int .u8) (.fld 1 (.bool) (.fld 1 (.int .i8) (.fld 1 (.int .i8) (.nil))))))), .int .u8, .int .u8, .int .u8, .sl 1 (.int .u8), .bool] : List Sh).map some := by kernel_rfl
set_option maxRecDepth 100000 in
theorem contract (H : Type) (enc : TypeId × Value → H) (W : World) (base : Nat) (args : Array Value) (ds gs : List (DataW H)) (before : List MemPlace)
    (hval : ∀ (j : Nat) t v, Tryz.f3.params[j]? = some t → args[j]? = some v → Value.okWide Tryz.prog W .any base t v)
    (hW : DataW.Whole enc Tryz.prog Tryz.f3.params.toList Rows.topFocusSpec.vars false W args.toList ds gs before) :
    Calls Tryz.prog 3 args W fun e W' => ∃ v, e = .returned v ∧ Rows.topFocusSpec.post enc Tryz.prog Tryz.f3 false true false false W args v W' := by
  have hW' := hW
  obtain ⟨p, q, hA, hV, rfl, hfz, hnd⟩ := hW
  rw [Tryz.params3] at hA hval
  obtain ⟨rfl, rfl⟩ := trodVars_none hV
  have hlen := trodAll_len hA
  obtain ⟨d1, d2, d3, d4, d5, d6, rfl⟩ := ds6 hlen
  have hb : ∀ d ∈ ([d1, d2, d3, d4, d5, d6] : List (DataW H)), Sm maxLen d := fun d _ => .inl (Nat.le_refl _)
  refine (row_walk (base := base) (ts := [22, 5, 5, 5, 23, 4]) shapes focus_row hA (fun j t v h1 h2 => hval j t v (by simpa using h1) (by simpa using h2)) hb laidOut (by kernel_rfl)).mono fun e W' ⟨he, bel, hts⟩ => ?_
  subst he
  exact ⟨_, rfl, _, _, _, [], _, [], hW', trodAll_mk1 (shut_bool Tryz.underlying4 _), hts, rfl, bel.frame _, fun h => by cases h⟩
set_option maxRecDepth 100000 in
theorem lifted (os : Os) (started : os.Started) (H : Type) (enc : TypeId × Value → H) :
    ReturnsInHanded {} Tryz.checked os 3 .any (Rows.topFocusSpec.pre6 enc Tryz.prog Tryz.f3 Rows.topFocusRow.domain false) (Rows.topFocusSpec.post enc Tryz.prog Tryz.f3 false true false false) := by
  refine returnsInHanded_of_change (C := Tryz.checked) own started (by kernel_rfl) Tryz.func3
    (ChangeSpec.witness6 (enc := enc) (C := Tryz.checked) false ⟨#[], #[.slice none 0 0, .int .u8 0, .int .u8 0, .int .u8 0, .slice none 0 0, .bool false], []⟩ 8 (by kernel_rfl) (by kernel_rfl) (by kernel_rfl) (by kernel_rfl)) ?_
  intro W base args ds gs before hval hW _ _
  exact contract H enc W base args ds gs before hval hW
theorem proved : Rows.TopFocusSaid :=
  OpenClaim.holds_of_wide 3 Tryz.f3 rfl rfl rfl rfl rfl rfl rfl ⟨rfl, rfl, rfl, rfl, rfl⟩ rfl rfl rfl rfl rfl (by kernel_rfl) Tryz.func3 (by kernel_rfl)
    (of_decide_eq_true (by kernel_rfl)) (by unfold Func.isWrapper; first | (rw [if_pos (by decide +kernel)]; kernel_rfl) | (rw [if_neg (by decide +kernel)]; exact ⟨rfl, rfl⟩))
    (fun os started H enc _ => lifted os started H enc)
#print axioms proved
end Go.Proofs.YtbknacpdcdkjiaaGreat.topFocusDone
