import Derived.Test.YtfbegifmhgkpjaaGreatVR3
import Derived.Test.YtfbegifmhgkpjaaGreatZ23
/- What came in, told as lists. No condition. -/
namespace Go.Proofs.YtfbegifmhgkpjaaGreat
open Go Go.VM
set_option linter.unusedVariables false
set_option linter.unusedSimpArgs false
theorem wf_i64 {n : Int} (h : (Lit.int .i64 n).wf = true) : -9223372036854775808 ≤ n ∧ n ≤ 9223372036854775807 := by
  simp [Lit.wf, IntKind.min, IntKind.max, IntKind.signed, IntKind.bits] at h; omega
theorem wf_u8 {n : Int} (h : (Lit.int .u8 n).wf = true) : 0 ≤ n ∧ n ≤ 255 := by
  simp [Lit.wf, IntKind.min, IntKind.max, IntKind.signed, IntKind.bits] at h; omega
theorem wf_i8 {n : Int} (h : (Lit.int .i8 n).wf = true) : -128 ≤ n ∧ n ≤ 127 := by
  simp [Lit.wf, IntKind.min, IntKind.max, IntKind.signed, IntKind.bits] at h; omega
theorem list_of {α : Type} {f : α → AV} {Q : α → Prop} : ∀ {es : List AV}, (∀ x ∈ es, ∃ a, x = f a ∧ Q a) → ∃ l : List α, es = l.map f ∧ ∀ a ∈ l, Q a
  | [], _ => ⟨[], rfl, by simp⟩
  | x :: es, h => by
    obtain ⟨a, rfl, ha⟩ := h x (.head _)
    obtain ⟨l, rfl, hl⟩ := list_of (fun y hy => h y (.tail _ hy))
    exact ⟨a :: l, rfl, by simpa using ⟨ha, hl⟩⟩
theorem fit_sl {α : Type} {f : α → AV} {Q : α → Prop} {N k : Nat} {e : Sh} {x : AV} (h : FitE N (.sl k e) x) (he : ∀ y, FitE N e y → ∃ a, y = f a ∧ Q a) : ∃ l : List α, x = .ro k (l.map f) ∧ l.length ≤ N ∧ ∀ a ∈ l, Q a := by
  simp only [FitE, FitB, Sh.isSt, Bool.false_eq_true, if_false, Fits] at h
  obtain ⟨es, h1, h2, h3⟩ := h
  injection h1 with h1 _
  subst h1
  obtain ⟨l, rfl, hl⟩ := list_of (f := f) (Q := Q) (fun y hy => he y (h3 y hy))
  exact ⟨l, rfl, by simpa using h2, hl⟩
theorem fits_one {N : Nat} {s : Sh} {l : List AV} (hs : s.isSt = false) (h : Fits N s l) : ∃ x, l = [x] ∧ FitE N s x := by
  obtain ⟨x, rfl⟩ := h.single hs
  exact ⟨x, rfl, by unfold FitE FitB; rw [hs]; exact h⟩
end Go.Proofs.YtfbegifmhgkpjaaGreat

/- What comes in; TopShows. No condition. -/
namespace Go.Proofs.YtfbegifmhgkpjaaGreat
open Go Go.VM
attribute [local irreducible] PurV Pur Step RL W D ACalls Then InBlock Fini
set_option linter.unusedVariables false
set_option linter.unusedSimpArgs false
set_option maxHeartbeats 4000000
theorem rcz_fit {N : Nat} {x : AV} (h : FitE N (.fld 1 (.int .i64) (.fld 1 (.int .i64) (.fld 1 (.int .i64) (.fld 1 (.int .i64) (.nil))))) x) : ∃ r : RC, x = r.enc ∧ r.ok := by
  obtain ⟨_, rfl, _, _, rfl, _, ⟨a, rfl, ha⟩, _, _, rfl, _, ⟨b, rfl, hb⟩, _, _, rfl, _, ⟨c, rfl, hc⟩, _, _, rfl, _, ⟨d, rfl, hd⟩, rfl⟩ := h
  exact ⟨⟨a, b, c, d⟩, rfl, wf_i64 ha, wf_i64 hb, wf_i64 hc, wf_i64 hd⟩
theorem wi_fit {N : Nat} {x : AV} (h : FitE N (.fld 1 (.int .u8) (.fld 1 (.int .i8) (.fld 1 (.int .i8) (.fld 1 (.int .u8) (.fld 1 (.int .u8) (.fld 1 (.bool) (.fld 1 (.bool) (.fld 1 (.sl 4 (.fld 1 (.int .i64) (.fld 1 (.int .i64) (.fld 1 (.int .i64) (.fld 1 (.int .i64) (.nil)))))) (.fld 1 (.int .u8) (.nil)))))))))) x) : ∃ a : WI, x = a.enc ∧ a.Ok := by
  obtain ⟨_, rfl, _, _, rfl, _, ⟨a, rfl, ha⟩, _, _, rfl, _, ⟨b, rfl, hb⟩, _, _, rfl, _, ⟨c, rfl, hc⟩, _, _, rfl, _, ⟨d, rfl, hd⟩, _, _, rfl, _, ⟨e, rfl, he⟩, _, _, rfl, _, ⟨f, rfl⟩, _, _, rfl, _, ⟨g, rfl⟩, _, _, rfl, _, hs, _, _, rfl, _, ⟨i, rfl, hi⟩, rfl⟩ := h
  obtain ⟨_, rfl, hs⟩ := fits_one rfl hs
  obtain ⟨l, rfl, hl, _⟩ := fit_sl (f := RC.enc) hs (fun y hy => rcz_fit hy)
  exact ⟨⟨a, b, c, d, e, f, g, l, i⟩, rfl, wf_u8 ha, wf_i8 hb, wf_i8 hc, wf_u8 hd, wf_u8 he, wf_u8 hi⟩
theorem sa_fit {N : Nat} {x : AV} (h : FitE N (.fld 1 (.int .u8) (.fld 1 (.int .u8) (.fld 1 (.int .i8) (.fld 1 (.int .i8) (.fld 1 (.int .u8) (.fld 1 (.int .u8) (.fld 1 (.bool) (.fld 3 (.fld 1 (.int .i64) (.fld 1 (.int .i64) (.fld 1 (.bool) (.nil)))) (.fld 4 (.fld 1 (.int .i64) (.fld 1 (.int .i64) (.fld 1 (.int .i64) (.fld 1 (.int .i64) (.nil))))) (.fld 1 (.int .u8) (.nil))))))))))) x) : ∃ a : SA, x = a.enc ∧ a.Ok := by
  obtain ⟨_, rfl, _, _, rfl, _, ⟨a, rfl, ha⟩, _, _, rfl, _, ⟨b, rfl, hb⟩, _, _, rfl, _, ⟨c, rfl, hc⟩, _, _, rfl, _, ⟨d, rfl, hd⟩, _, _, rfl, _, ⟨e, rfl, he⟩, _, _, rfl, _, ⟨f, rfl, hf⟩, _, _, rfl, _, ⟨g, rfl⟩, _, _, rfl, _, ⟨_, _, rfl, _, ⟨x, rfl, hx⟩, _, _, rfl, _, ⟨y, rfl, hy⟩, _, _, rfl, _, ⟨z, rfl⟩, rfl⟩, _, _, rfl, _, ⟨_, _, rfl, _, ⟨r1, rfl, h1⟩, _, _, rfl, _, ⟨r2, rfl, h2⟩, _, _, rfl, _, ⟨r3, rfl, h3⟩, _, _, rfl, _, ⟨r4, rfl, h4⟩, rfl⟩, _, _, rfl, _, ⟨i, rfl, hi⟩, rfl⟩ := h
  exact ⟨⟨a, b, c, d, e, f, g, ⟨x, y, z⟩, ⟨r1, r2, r3, r4⟩, i⟩, rfl, wf_u8 ha, wf_u8 hb, wf_i8 hc, wf_i8 hd, wf_u8 he, wf_u8 hf, wf_i64 hx, wf_i64 hy, ⟨wf_i64 h1, wf_i64 h2, wf_i64 h3, wf_i64 h4⟩, wf_u8 hi⟩
theorem shows_row : ∀ l, FitAll maxLen [.sl 9 (.fld 1 (.int .u8) (.fld 1 (.int .i8) (.fld 1 (.int .i8) (.fld 1 (.int .u8) (.fld 1 (.int .u8) (.fld 1 (.bool) (.fld 1 (.bool) (.fld 1 (.sl 4 (.fld 1 (.int .i64) (.fld 1 (.int .i64) (.fld 1 (.int .i64) (.fld 1 (.int .i64) (.nil)))))) (.fld 1 (.int .u8) (.nil)))))))))), .sl 15 (.fld 1 (.int .u8) (.fld 1 (.int .u8) (.fld 1 (.int .i8) (.fld 1 (.int .i8) (.fld 1 (.int .u8) (.fld 1 (.int .u8) (.fld 1 (.bool) (.fld 3 (.fld 1 (.int .i64) (.fld 1 (.int .i64) (.fld 1 (.bool) (.nil)))) (.fld 4 (.fld 1 (.int .i64) (.fld 1 (.int .i64) (.fld 1 (.int .i64) (.fld 1 (.int .i64) (.nil))))) (.fld 1 (.int .u8) (.nil)))))))))))] l → ACalls Tryz.prog 3 l [] (fun r h' => r = .val (.bool true)) := by
  rintro l ⟨x, _, rfl, hx, y, _, rfl, hy, rfl⟩
  obtain ⟨l, rfl, hl1, hl⟩ := fit_sl (f := WI.enc) (Q := WI.Ok) hx (fun y hy => wi_fit hy)
  obtain ⟨m, rfl, hm1, hm⟩ := fit_sl (f := SA.enc) (Q := SA.Ok) hy (fun y hy => sa_fit hy)
  exact (shows_c l m [] hl1 hm1 hl hm).mono (by rintro r h' ⟨rfl, _⟩; rfl)
end Go.Proofs.YtfbegifmhgkpjaaGreat

/- 'TopShows' answers true for every input and leaves what came in as it was. No condition. -/
namespace Go.Proofs.YtfbegifmhgkpjaaGreat.topShowsDone
open Go Go.VM Go.RowKit Go.ChangeShapes Go.WideShapes Go.ChangeAt
set_option linter.unusedVariables false
set_option linter.unusedSimpArgs false
theorem own : ownKnob Tryz.prog.godebug = none := by kernel_rfl
theorem laidOut : laidOutB Tryz.prog = true := by kernel_rfl
set_option maxRecDepth 100000 in
theorem shapes : ([22, 23] : List Nat).map (shOf Tryz.prog 20) = ([.sl 9 (.fld 1 (.int .u8) (.fld 1 (.int .i8) (.fld 1 (.int .i8) (.fld 1 (.int .u8) (.fld 1 (.int .u8) (.fld 1 (.bool) (.fld 1 (.bool) (.fld 1 (.sl 4 (.fld 1 (.int .i64) (.fld 1 (.int .i64) (.fld 1 (.int .i64) (.fld 1 (.int .i64) (.nil)))))) (.fld 1 (.int .u8) (.nil)))))))))), .sl 15 (.fld 1 (.int .u8) (.fld 1 (.int .u8) (.fld 1 (.int .i8) (.fld 1 (.int .i8) (.fld 1 (.int .u8) (.fld 1 (.int .u8) (.fld 1 (.bool) (.fld 3 (.fld 1 (.int .i64) (.fld 1 (.int .i64) (.fld 1 (.bool) (.nil)))) (.fld 4 (.fld 1 (.int .i64) (.fld 1 (.int .i64) (.fld 1 (.int .i64) (.fld 1 (.int .i64) (.nil))))) (.fld 1 (.int .u8) (.nil)))))))))))] : List Sh).map some := by kernel_rfl
set_option maxRecDepth 100000 in
theorem contract (H : Type) (enc : TypeId × Value → H) (W : World) (base : Nat) (args : Array Value) (ds gs : List (DataW H)) (before : List MemPlace)
    (hval : ∀ (j : Nat) t v, Tryz.f3.params[j]? = some t → args[j]? = some v → Value.okWide Tryz.prog W .any base t v)
    (hW : DataW.Whole enc Tryz.prog Tryz.f3.params.toList Rows.topShowsSpec.vars false W args.toList ds gs before) :
    Calls Tryz.prog 3 args W fun e W' => ∃ v, e = .returned v ∧ Rows.topShowsSpec.post enc Tryz.prog Tryz.f3 false true false false W args v W' := by
  have hW' := hW
  obtain ⟨p, q, hA, hV, rfl, hfz, hnd⟩ := hW
  rw [Tryz.params3] at hA hval
  obtain ⟨rfl, rfl⟩ := trodVars_none hV
  have hlen := trodAll_len hA
  obtain ⟨d1, d2, rfl⟩ := ds2 hlen
  have hb : ∀ d ∈ ([d1, d2] : List (DataW H)), Sm maxLen d := fun d _ => .inl (Nat.le_refl _)
  refine (row_walk (base := base) (ts := [22, 23]) shapes shows_row hA (fun j t v h1 h2 => hval j t v (by simpa using h1) (by simpa using h2)) hb laidOut (by kernel_rfl)).mono fun e W' ⟨he, bel, hts⟩ => ?_
  subst he
  exact ⟨_, rfl, _, _, _, [], _, [], hW', trodAll_mk1 (shut_bool Tryz.underlying4 _), hts, rfl, bel.frame _, fun h => by cases h⟩
set_option maxRecDepth 100000 in
theorem lifted (os : Os) (started : os.Started) (H : Type) (enc : TypeId × Value → H) :
    ReturnsInHanded {} Tryz.checked os 3 .any (Rows.topShowsSpec.pre6 enc Tryz.prog Tryz.f3 Rows.topShowsRow.domain false) (Rows.topShowsSpec.post enc Tryz.prog Tryz.f3 false true false false) := by
  refine returnsInHanded_of_change (C := Tryz.checked) own started (by kernel_rfl) Tryz.func3
    (ChangeSpec.witness6 (enc := enc) (C := Tryz.checked) false ⟨#[], #[.slice none 0 0, .slice none 0 0], []⟩ 8 (by kernel_rfl) (by kernel_rfl) (by kernel_rfl) (by kernel_rfl)) ?_
  intro W base args ds gs before hval hW _ _
  exact contract H enc W base args ds gs before hval hW
theorem proved : Rows.TopShowsSaid :=
  OpenClaim.holds_of_wide 3 Tryz.f3 rfl rfl rfl rfl rfl rfl rfl ⟨rfl, rfl, rfl, rfl, rfl⟩ rfl rfl rfl rfl rfl (by kernel_rfl) Tryz.func3 (by kernel_rfl)
    (of_decide_eq_true (by kernel_rfl)) (by unfold Func.isWrapper; first | (rw [if_pos (by decide +kernel)]; kernel_rfl) | (rw [if_neg (by decide +kernel)]; exact ⟨rfl, rfl⟩))
    (fun os started H enc _ => lifted os started H enc)
#print axioms proved
end Go.Proofs.YtfbegifmhgkpjaaGreat.topShowsDone
