import Derived.Test.YtbknacpdcdkjiaaGreatU5
import Derived.Test.YtbknacpdcdkjiaaGreatF54
/- What came in, told as lists. No condition. -/
namespace Go.Proofs.YtbknacpdcdkjiaaGreat
open Go Go.VM
set_option maxRecDepth 100000
set_option linter.unusedVariables false
set_option linter.unusedSimpArgs false
theorem wf_u8 {n : Int} (h : (Lit.int .u8 n).wf = true) : 0 ≤ n ∧ n ≤ 255 := by
  simp [Lit.wf, IntKind.min, IntKind.max, IntKind.signed, IntKind.bits] at h; omega
theorem wf_i8 {n : Int} (h : (Lit.int .i8 n).wf = true) : -128 ≤ n ∧ n ≤ 127 := by
  simp [Lit.wf, IntKind.min, IntKind.max, IntKind.signed, IntKind.bits] at h; omega
theorem list_of {α : Type} {f : α → AV} {Q : α → Prop} : ∀ {es : List AV}, (∀ x ∈ es, ∃ a, x = f a ∧ Q a) → ∃ l : List α, es = l.map f ∧ ∀ a ∈ l, Q a
  | [], _ => ⟨[], rfl, by simp⟩
  | x :: es, h => by
    obtain ⟨a, rfl, ha⟩ := h x (.head _)
    obtain ⟨l, rfl, hl⟩ := list_of (fun y hy => h y (.tail _ hy))
    exact ⟨a :: l, rfl, by simpa using ⟨ha, hl⟩⟩
theorem fit_sl {α : Type} {f : α → AV} {Q : α → Prop} {N k : Nat} {e : Sh} {x : AV} (h : FitE N (.sl k e) x) (he : ∀ y, FitE N e y → ∃ a, y = f a ∧ Q a) : ∃ l : List α, x = .ro k (l.map f) ∧ l.length ≤ N ∧ ∀ a ∈ l, Q a := by
  simp only [FitE, FitB, Sh.isSt, Bool.false_eq_true, if_false, Fits] at h
  obtain ⟨es, h1, h2, h3⟩ := h
  injection h1 with h1 _
  subst h1
  obtain ⟨l, rfl, hl⟩ := list_of (f := f) (Q := Q) (fun y hy => he y (h3 y hy))
  exact ⟨l, rfl, by simpa using h2, hl⟩
end Go.Proofs.YtbknacpdcdkjiaaGreat

/- What comes in; TopWays. No condition. -/
namespace Go.Proofs.YtbknacpdcdkjiaaGreat
open Go Go.VM
set_option maxRecDepth 100000
attribute [local irreducible] PurV Pur Step RL W D ACalls Then InBlock Fini
set_option linter.unusedVariables false
set_option linter.unusedSimpArgs false
set_option maxHeartbeats 4000000
theorem wn_fit {N : Nat} {x : AV} (h : FitE N (.fld 1 (.int .u8) (.fld 5 (.fld 1 (.int .i8) (.fld 1 (.int .i8) (.fld 1 (.int .u8) (.fld 1 (.int .u8) (.fld 1 (.bool) (.nil)))))) (.fld 5 (.fld 1 (.int .i8) (.fld 1 (.int .i8) (.fld 1 (.int .u8) (.fld 1 (.int .u8) (.fld 1 (.bool) (.nil)))))) (.nil)))) x) : ∃ a : WN, x = a.enc ∧ a.Ok := by
  obtain ⟨_, rfl, _, _, rfl, _, ⟨a, rfl, ha⟩, _, _, rfl, _, ⟨_, _, rfl, _, ⟨x1, rfl, hx1⟩, _, _, rfl, _, ⟨y1, rfl, hy1⟩, _, _, rfl, _, ⟨w1, rfl, hw1⟩, _, _, rfl, _, ⟨h1, rfl, hh1⟩, _, _, rfl, _, ⟨m1, rfl⟩, rfl⟩, _, _, rfl, _, ⟨_, _, rfl, _, ⟨x2, rfl, hx2⟩, _, _, rfl, _, ⟨y2, rfl, hy2⟩, _, _, rfl, _, ⟨w2, rfl, hw2⟩, _, _, rfl, _, ⟨h2, rfl, hh2⟩, _, _, rfl, _, ⟨m2, rfl⟩, rfl⟩, rfl⟩ := h
  exact ⟨⟨a, ⟨x1, y1, w1, h1, m1⟩, ⟨x2, y2, w2, h2, m2⟩⟩, rfl, wf_u8 ha, ⟨wf_i8 hx1, wf_i8 hy1, wf_u8 hw1, wf_u8 hh1⟩, wf_i8 hx2, wf_i8 hy2, wf_u8 hw2, wf_u8 hh2⟩
theorem wa_fit {N : Nat} {x : AV} (h : FitE N (.fld 1 (.int .i8) (.fld 1 (.int .i8) (.fld 1 (.bool) (.fld 1 (.bool) (.nil))))) x) : ∃ a : WA, x = a.enc ∧ a.Ok := by
  obtain ⟨_, rfl, _, _, rfl, _, ⟨a, rfl, ha⟩, _, _, rfl, _, ⟨b, rfl, hb⟩, _, _, rfl, _, ⟨c, rfl⟩, _, _, rfl, _, ⟨d, rfl⟩, rfl⟩ := h
  exact ⟨⟨a, b, c, d⟩, rfl, wf_i8 ha, wf_i8 hb⟩
theorem ways_row : ∀ l, FitAll maxLen [.sl 11 (.fld 1 (.int .u8) (.fld 5 (.fld 1 (.int .i8) (.fld 1 (.int .i8) (.fld 1 (.int .u8) (.fld 1 (.int .u8) (.fld 1 (.bool) (.nil)))))) (.fld 5 (.fld 1 (.int .i8) (.fld 1 (.int .i8) (.fld 1 (.int .u8) (.fld 1 (.int .u8) (.fld 1 (.bool) (.nil)))))) (.nil)))), .sl 4 (.fld 1 (.int .i8) (.fld 1 (.int .i8) (.fld 1 (.bool) (.fld 1 (.bool) (.nil)))))] l → ACalls Tryz.prog 4 l [] (fun r h' => r = .val (.bool true)) := by
  rintro l ⟨x, _, rfl, hx, y, _, rfl, hy, rfl⟩
  obtain ⟨l, rfl, hl1, hl⟩ := fit_sl (f := WN.enc) (Q := WN.Ok) hx (fun y hy => wn_fit hy)
  obtain ⟨m, rfl, hm1, hm⟩ := fit_sl (f := WA.enc) (Q := WA.Ok) hy (fun y hy => wa_fit hy)
  exact (tways_c l m [] hl1 hm1 hl hm).mono (by rintro r h' ⟨rfl, _⟩; rfl)
end Go.Proofs.YtbknacpdcdkjiaaGreat

/- 'TopWays' answers true for every input and leaves what came in as it was. No condition. -/
namespace Go.Proofs.YtbknacpdcdkjiaaGreat.topWaysDone
open Go Go.VM Go.RowKit Go.ChangeShapes Go.WideShapes Go.ChangeAt
set_option maxRecDepth 100000
set_option linter.unusedVariables false
set_option linter.unusedSimpArgs false
theorem own : ownKnob Tryz.prog.godebug = none := by kernel_rfl
theorem laidOut : laidOutB Tryz.prog = true := by kernel_rfl
theorem shapes : ([70, 71] : List Nat).map (shOf Tryz.prog 20) = ([.sl 11 (.fld 1 (.int .u8) (.fld 5 (.fld 1 (.int .i8) (.fld 1 (.int .i8) (.fld 1 (.int .u8) (.fld 1 (.int .u8) (.fld 1 (.bool) (.nil)))))) (.fld 5 (.fld 1 (.int .i8) (.fld 1 (.int .i8) (.fld 1 (.int .u8) (.fld 1 (.int .u8) (.fld 1 (.bool) (.nil)))))) (.nil)))), .sl 4 (.fld 1 (.int .i8) (.fld 1 (.int .i8) (.fld 1 (.bool) (.fld 1 (.bool) (.nil)))))] : List Sh).map some := by kernel_rfl
theorem contract (H : Type) (enc : TypeId × Value → H) (W : World) (base : Nat) (args : Array Value) (ds gs : List (DataW H)) (before : List MemPlace)
    (hval : ∀ (j : Nat) t v, Tryz.f4.params[j]? = some t → args[j]? = some v → Value.okWide Tryz.prog W .any base t v)
    (hW : DataW.Whole enc Tryz.prog Tryz.f4.params.toList Rows.topWaysSpec.vars false W args.toList ds gs before) :
    Calls Tryz.prog 4 args W fun e W' => ∃ v, e = .returned v ∧ Rows.topWaysSpec.post enc Tryz.prog Tryz.f4 false true false false W args v W' := by
  have hW' := hW
  obtain ⟨p, q, hA, hV, rfl, hfz, hnd⟩ := hW
  rw [Tryz.params4] at hA hval
  obtain ⟨rfl, rfl⟩ := trodVars_none hV
  have hlen := trodAll_len hA
  obtain ⟨d1, d2, rfl⟩ := ds2 hlen
  have hb : ∀ d ∈ ([d1, d2] : List (DataW H)), Sm maxLen d := fun d _ => .inl (Nat.le_refl _)
  refine (row_walk (base := base) (ts := [70, 71]) shapes ways_row hA (fun j t v h1 h2 => hval j t v (by simpa using h1) (by simpa using h2)) hb laidOut (by kernel_rfl)).mono fun e W' ⟨he, bel, hts⟩ => ?_
  subst he
  exact ⟨_, rfl, _, _, _, [], _, [], hW', trodAll_mk1 (shut_bool Tryz.underlying4 _), hts, rfl, bel.frame _, fun h => by cases h⟩
theorem lifted (os : Os) (started : os.Started) (H : Type) (enc : TypeId × Value → H) :
    ReturnsInHanded {} Tryz.checked os 4 .any (Rows.topWaysSpec.pre6 enc Tryz.prog Tryz.f4 Rows.topWaysRow.domain false) (Rows.topWaysSpec.post enc Tryz.prog Tryz.f4 false true false false) := by
  refine returnsInHanded_of_change (C := Tryz.checked) own started (by kernel_rfl) Tryz.func4
    (ChangeSpec.witness6 (enc := enc) (C := Tryz.checked) false ⟨#[], #[.slice none 0 0, .slice none 0 0], []⟩ 8 (by kernel_rfl) (by kernel_rfl) (by kernel_rfl) (by kernel_rfl)) ?_
  intro W base args ds gs before hval hW _ _
  exact contract H enc W base args ds gs before hval hW
theorem proved : Rows.TopWaysSaid :=
  OpenClaim.holds_of_wide 4 Tryz.f4 rfl rfl rfl rfl rfl rfl rfl ⟨rfl, rfl, rfl, rfl, rfl⟩ rfl rfl rfl rfl rfl (by kernel_rfl) Tryz.func4 (by kernel_rfl)
    (of_decide_eq_true (by kernel_rfl)) (by unfold Func.isWrapper; first | (rw [if_pos (by decide +kernel)]; kernel_rfl) | (rw [if_neg (by decide +kernel)]; exact ⟨rfl, rfl⟩))
    (fun os started H enc _ => lifted os started H enc)
#print axioms proved
end Go.Proofs.YtbknacpdcdkjiaaGreat.topWaysDone
