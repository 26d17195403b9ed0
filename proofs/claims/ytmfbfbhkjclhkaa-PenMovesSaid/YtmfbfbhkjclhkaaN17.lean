import Derived.Test.YtmfbfbhkjclhkaaN15
import Derived.Test.YtmfbfbhkjclhkaaN13
import Derived.Test.YtmfbfbhkjclhkaaN9
import Derived.Test.YtmfbfbhkjclhkaaVR3
/- The law's own example. No condition. -/
namespace Go.Proofs.Ytmfbfbhkjclhkaa
open Go Go.VM
attribute [local irreducible] PurV Pur Step RL W D ACalls Then InBlock Fini
set_option linter.unusedVariables false
set_option linter.unusedSimpArgs false
set_option maxHeartbeats 20000000
def awP : PN := ⟨3, 255, 0, 1, 0, 2, 1, true, [⟨0, 0, 3, 2⟩]⟩
def awQ : PN := ⟨6, 255, 9, 1, 0, 0, 0, false, []⟩
theorem aw_set : setF newF 2 1 true [0, 0, 3, 2] = (awP, 0) := by decide +kernel
theorem aw_chg : chgF newF 5 [6, 0, 9, 0, 0] = (awQ, 0) := by decide +kernel
theorem aw_chk : chkF awP = 0 := by decide +kernel
/-- A region's places. -/
theorem regP_has {p : PN} (hc : chkF p = 0) (w g u v : Int) : hasR (regP p w g) u v = ((!p.cl || hasF (clP p) u v) && hasF [plP w g] u v) := by
  unfold regP
  rw [if_neg (by omega)]
  cases hcl : p.cl with
  | false => rw [if_pos rfl, has_ofF]; rfl
  | true => rw [if_neg (by decide), has_join (can_of _) (can_of _) rfl, has_ofF, has_ofF]; rfl
theorem regP_can (p : PN) (w g : Int) : Can (regP p w g) := by
  unfold regP
  split
  · exact can_nil
  · split
    · exact can_of _
    · exact can_join _ _ _
theorem pl_has {w g u v : Int} (h : hasF [plP w g] u v = true) : (0 ≤ u ∧ u < w) ∧ 0 ≤ v ∧ v < g := by
  obtain ⟨r, hr, _, h1⟩ := hasF_iff.1 h
  have : r = plP w g := by simpa using hr
  subst this
  unfold plP RC.has at h1
  dsimp only at h1
  omega
theorem regP_bx {p : PN} (hc : chkF p = 0) {w g : Int} {n : Nat} (hw : w ≤ n) (hg : g ≤ n) : Bx 0 n (regP p w g) := .of_has (regP_can _ _ _) fun u v h => by
  rw [regP_has hc, Bool.and_eq_true] at h
  have := pl_has h.2
  omega
theorem aw_area : areaF (regP awP 4 4) = 4 := by
  rw [(regP_bx aw_chk (n := 4) (by omega) (by omega)).area, show hasR (regP awP 4 4) = fun u v => ((!awP.cl || hasF (clP awP) u v) && hasF [plP 4 4] u v) from by funext u v; exact regP_has aw_chk 4 4 u v]
  decide +kernel
set_option maxRecDepth 100000 in
theorem awake_c (h : Heap) : ACalls Try.prog 11 [] h (fun r h' => r = .val (.bool true) ∧ h' = h) := by
  have n1 := new_c
  have s1 := fun h => setclip_c newF 2 1 true [0, 0, 3, 2] h (by decide) (by decide)
  have g1 := fun h => change_c newF 5 [6, 0, 9, 0, 0] h (by decide) (by decide)
  have r1 := fun h => pregion_c awP 4 4 h (by decide) (by decide) (by decide)
  rw [aw_set] at s1
  rw [aw_chg] at g1
  have bx := regP_bx aw_chk (w := 4) (g := 4) (n := 4) (by omega) (by omega)
  have a1 := fun h => barea_c (regP awP 4 4) h (by have := bx.len; omega) (fun r hr => (bx.can.cnt r hr).sm)
  rw [aw_area] at a1
  have h1 := fun x y h => bhas_c (regP awP 4 4) x y h (by have := bx.len; omega) bx.can.cnt bx.can.y
  have h11 := h1 2 1
  have h12 := h1 3 2
  have h13 := h1 1 1
  rw [show hasR (regP awP 4 4) 2 1 = true from by rw [regP_has aw_chk]; decide +kernel] at h11
  rw [show hasR (regP awP 4 4) 3 2 = true from by rw [regP_has aw_chk]; decide +kernel] at h12
  rw [show hasR (regP awP 4 4) 1 1 = false from by rw [regP_has aw_chk]; decide +kernel] at h13
  clear h1 bx
  generalize regP awP 4 4 = R0 at *
  simp only [pn_enc] at *
  unfold regE at *
  refine ACalls.intro Try.func11 rfl Try.ntmps11 Try.results11 (Nat.le_of_ble_eq_true rfl) ?_
  (repeat' (first | (refine iS ?_; refine iMu ?_; refine S.mapU ?_) | refine svz ⟨fun b hq => ?_⟩ | refine sv1 ?_ | refine svs ⟨?_⟩ | refine svu ⟨fun u => ?_⟩ | (refine svg (fun hg => ?_) (fun hg => ?_) <;> try (exfalso; first | omega | contradiction)) | (refine svc (fun hc => ?_) (fun hc => ?_) <;> try (exfalso; first | omega | contradiction)) | refine sv2 ?_ | refine svh (fun hb => ?_) (fun hb => ?_) | refine svb (fun b => ?_) | refine sva ?_ | refine sv3 ?_))
  refine S.call ?_; refine (n1 _).mono ?_; rintro r h' ⟨rfl, hh⟩; subst hh
  (repeat' (first | (refine iS ?_; refine iMu ?_; refine S.mapU ?_) | refine svz ⟨fun b hq => ?_⟩ | refine sv1 ?_ | refine svs ⟨?_⟩ | refine svu ⟨fun u => ?_⟩ | (refine svg (fun hg => ?_) (fun hg => ?_) <;> try (exfalso; first | omega | contradiction)) | (refine svc (fun hc => ?_) (fun hc => ?_) <;> try (exfalso; first | omega | contradiction)) | refine sv2 ?_ | refine svh (fun hb => ?_) (fun hb => ?_) | refine svb (fun b => ?_) | refine sva ?_ | refine sv3 ?_))
  refine S.buildSlice (xs := [.const (.int .i64 0), .const (.int .i64 0), .const (.int .i64 3), .const (.int .i64 2)]) (vs := ints .i64 [0, 0, 3, 2]) rfl rfl (by repeat (first | exact Evals.nil | (apply Evals.cons; rfl))) (by simp [ints, AV.cells]) (by repeat (first | exact Ones.nil | refine Ones.cons rfl ?_ | refine Ones.own (by (fail_if_success (apply memG)); repeat (first | exact List.Mem.head _ | assumption | refine List.Mem.tail _ ?_)) ?_)) (by simp [ints]) rfl (fun u => ?_)
  refine RL.frz (v := u) (by (fail_if_success (apply tkG)); (repeat (first | exact Tk.here | apply Tk.there)); first | done | fail) (by repeat' (first | apply FrzT.cons | exact FrzT.rest _ | exact Frz.hit | apply Frz.aggc | apply Frz.tupc | exact Frz.aggn | exact Frz.tupn | exact Frz.keep _)) (by repeat' (first | apply FrzH.box | apply FrzH.keep | exact FrzH.rest _ | exact Frz.hit | apply Frz.aggc | apply Frz.tupc | exact Frz.aggn | exact Frz.tupn | exact Frz.keep _)) ?_
  (repeat' (first | (refine iS ?_; refine iMu ?_; refine S.mapU ?_) | refine svz ⟨fun b hq => ?_⟩ | refine sv1 ?_ | refine svs ⟨?_⟩ | refine svu ⟨fun u => ?_⟩ | (refine svg (fun hg => ?_) (fun hg => ?_) <;> try (exfalso; first | omega | contradiction)) | (refine svc (fun hc => ?_) (fun hc => ?_) <;> try (exfalso; first | omega | contradiction)) | refine sv2 ?_ | refine svh (fun hb => ?_) (fun hb => ?_) | refine svb (fun b => ?_) | refine sva ?_ | refine sv3 ?_))
  refine S.call ?_; refine (s1 _).mono ?_; rintro r h' ⟨rfl, hh⟩; subst hh
  (repeat' (first | (refine iS ?_; refine iMu ?_; refine S.mapU ?_) | refine svz ⟨fun b hq => ?_⟩ | refine sv1 ?_ | refine svs ⟨?_⟩ | refine svu ⟨fun u => ?_⟩ | (refine svg (fun hg => ?_) (fun hg => ?_) <;> try (exfalso; first | omega | contradiction)) | (refine svc (fun hc => ?_) (fun hc => ?_) <;> try (exfalso; first | omega | contradiction)) | refine sv2 ?_ | refine svh (fun hb => ?_) (fun hb => ?_) | refine svb (fun b => ?_) | refine sva ?_ | refine sv3 ?_))
  refine S.call ?_; refine (r1 _).mono ?_; rintro r h' ⟨rfl, hh⟩; subst hh
  (repeat' (first | (refine iS ?_; refine iMu ?_; refine S.mapU ?_) | refine svz ⟨fun b hq => ?_⟩ | refine sv1 ?_ | refine svs ⟨?_⟩ | refine svu ⟨fun u => ?_⟩ | (refine svg (fun hg => ?_) (fun hg => ?_) <;> try (exfalso; first | omega | contradiction)) | (refine svc (fun hc => ?_) (fun hc => ?_) <;> try (exfalso; first | omega | contradiction)) | refine sv2 ?_ | refine svh (fun hb => ?_) (fun hb => ?_) | refine svb (fun b => ?_) | refine sva ?_ | refine sv3 ?_))
  refine S.call ?_; refine (n1 _).mono ?_; rintro r h' ⟨rfl, hh⟩; subst hh
  (repeat' (first | (refine iS ?_; refine iMu ?_; refine S.mapU ?_) | refine svz ⟨fun b hq => ?_⟩ | refine sv1 ?_ | refine svs ⟨?_⟩ | refine svu ⟨fun u => ?_⟩ | (refine svg (fun hg => ?_) (fun hg => ?_) <;> try (exfalso; first | omega | contradiction)) | (refine svc (fun hc => ?_) (fun hc => ?_) <;> try (exfalso; first | omega | contradiction)) | refine sv2 ?_ | refine svh (fun hb => ?_) (fun hb => ?_) | refine svb (fun b => ?_) | refine sva ?_ | refine sv3 ?_))
  refine S.buildSlice (xs := [.const (.int .i64 6), .const (.int .i64 0), .const (.int .i64 9), .const (.int .i64 0), .const (.int .i64 0)]) (vs := ints .i64 [6, 0, 9, 0, 0]) rfl rfl (by repeat (first | exact Evals.nil | (apply Evals.cons; rfl))) (by simp [ints, AV.cells]) (by repeat (first | exact Ones.nil | refine Ones.cons rfl ?_ | refine Ones.own (by (fail_if_success (apply memG)); repeat (first | exact List.Mem.head _ | assumption | refine List.Mem.tail _ ?_)) ?_)) (by simp [ints]) rfl (fun u => ?_)
  refine RL.frz (v := u) (by (fail_if_success (apply tkG)); (repeat (first | exact Tk.here | apply Tk.there)); first | done | fail) (by repeat' (first | apply FrzT.cons | exact FrzT.rest _ | exact Frz.hit | apply Frz.aggc | apply Frz.tupc | exact Frz.aggn | exact Frz.tupn | exact Frz.keep _)) (by repeat' (first | apply FrzH.box | apply FrzH.keep | exact FrzH.rest _ | exact Frz.hit | apply Frz.aggc | apply Frz.tupc | exact Frz.aggn | exact Frz.tupn | exact Frz.keep _)) ?_
  (repeat' (first | (refine iS ?_; refine iMu ?_; refine S.mapU ?_) | refine svz ⟨fun b hq => ?_⟩ | refine sv1 ?_ | refine svs ⟨?_⟩ | refine svu ⟨fun u => ?_⟩ | (refine svg (fun hg => ?_) (fun hg => ?_) <;> try (exfalso; first | omega | contradiction)) | (refine svc (fun hc => ?_) (fun hc => ?_) <;> try (exfalso; first | omega | contradiction)) | refine sv2 ?_ | refine svh (fun hb => ?_) (fun hb => ?_) | refine svb (fun b => ?_) | refine sva ?_ | refine sv3 ?_))
  refine S.call ?_; refine (g1 _).mono ?_; rintro r h' ⟨rfl, hh⟩; subst hh
  have e1 : awQ.fn = 6 := rfl
  have e2 : awQ.fo = 9 := rfl
  have e3 : awQ.pl = 255 := rfl
  (repeat' (first | (refine iS ?_; refine iMu ?_; refine S.mapU ?_) | refine svz ⟨fun b hq => ?_⟩ | refine sv1 ?_ | refine svs ⟨?_⟩ | refine svu ⟨fun u => ?_⟩ | (refine svg (fun hg => ?_) (fun hg => ?_) <;> try (exfalso; first | omega | contradiction)) | (refine svc (fun hc => ?_) (fun hc => ?_) <;> try (exfalso; first | omega | contradiction)) | refine sv2 ?_ | refine svh (fun hb => ?_) (fun hb => ?_) | refine svb (fun b => ?_) | refine sva ?_ | refine sv3 ?_))
  refine S.call ?_; refine (a1 _).mono ?_; rintro r h' ⟨rfl, hh⟩; subst hh
  (repeat' (first | (refine iS ?_; refine iMu ?_; refine S.mapU ?_) | refine svz ⟨fun b hq => ?_⟩ | refine sv1 ?_ | refine svs ⟨?_⟩ | refine svu ⟨fun u => ?_⟩ | (refine svg (fun hg => ?_) (fun hg => ?_) <;> try (exfalso; first | omega | contradiction)) | (refine svc (fun hc => ?_) (fun hc => ?_) <;> try (exfalso; first | omega | contradiction)) | refine sv2 ?_ | refine svh (fun hb => ?_) (fun hb => ?_) | refine svb (fun b => ?_) | refine sva ?_ | refine sv3 ?_))
  refine S.call ?_; refine (h11 _).mono ?_; rintro r h' ⟨rfl, hh⟩; subst hh
  (repeat' (first | (refine iS ?_; refine iMu ?_; refine S.mapU ?_) | refine svz ⟨fun b hq => ?_⟩ | refine sv1 ?_ | refine svs ⟨?_⟩ | refine svu ⟨fun u => ?_⟩ | (refine svg (fun hg => ?_) (fun hg => ?_) <;> try (exfalso; first | omega | contradiction)) | (refine svc (fun hc => ?_) (fun hc => ?_) <;> try (exfalso; first | omega | contradiction)) | refine sv2 ?_ | refine svh (fun hb => ?_) (fun hb => ?_) | refine svb (fun b => ?_) | refine sva ?_ | refine sv3 ?_))
  refine S.call ?_; refine (h12 _).mono ?_; rintro r h' ⟨rfl, hh⟩; subst hh
  (repeat' (first | (refine iS ?_; refine iMu ?_; refine S.mapU ?_) | refine svz ⟨fun b hq => ?_⟩ | refine sv1 ?_ | refine svs ⟨?_⟩ | refine svu ⟨fun u => ?_⟩ | (refine svg (fun hg => ?_) (fun hg => ?_) <;> try (exfalso; first | omega | contradiction)) | (refine svc (fun hc => ?_) (fun hc => ?_) <;> try (exfalso; first | omega | contradiction)) | refine sv2 ?_ | refine svh (fun hb => ?_) (fun hb => ?_) | refine svb (fun b => ?_) | refine sva ?_ | refine sv3 ?_))
  refine S.call ?_; refine (h13 _).mono ?_; rintro r h' ⟨rfl, hh⟩; subst hh
  (repeat' (first | (refine iS ?_; refine iMu ?_; refine S.mapU ?_) | refine svz ⟨fun b hq => ?_⟩ | refine sv1 ?_ | refine svs ⟨?_⟩ | refine svu ⟨fun u => ?_⟩ | (refine svg (fun hg => ?_) (fun hg => ?_) <;> try (exfalso; first | omega | contradiction)) | (refine svc (fun hc => ?_) (fun hc => ?_) <;> try (exfalso; first | omega | contradiction)) | refine sv2 ?_ | refine svh (fun hb => ?_) (fun hb => ?_) | refine svb (fun b => ?_) | refine sva ?_ | refine sv3 ?_))
  refine fin_r (h' := h') ⟨?_, rfl⟩
  rw [e3]; rfl
end Go.Proofs.Ytmfbfbhkjclhkaa

/- What came in, told as lists. No condition. -/
namespace Go.Proofs.Ytmfbfbhkjclhkaa
open Go Go.VM
set_option linter.unusedVariables false
set_option linter.unusedSimpArgs false
theorem wf_i64 {n : Int} (h : (Lit.int .i64 n).wf = true) : -9223372036854775808 ≤ n ∧ n ≤ 9223372036854775807 := by
  simp [Lit.wf, IntKind.min, IntKind.max, IntKind.signed, IntKind.bits] at h; omega
theorem wf_u8 {n : Int} (h : (Lit.int .u8 n).wf = true) : 0 ≤ n ∧ n ≤ 255 := by
  simp [Lit.wf, IntKind.min, IntKind.max, IntKind.signed, IntKind.bits] at h; omega
theorem wf_i8 {n : Int} (h : (Lit.int .i8 n).wf = true) : -128 ≤ n ∧ n ≤ 127 := by
  simp [Lit.wf, IntKind.min, IntKind.max, IntKind.signed, IntKind.bits] at h; omega
theorem list_of {α : Type} {f : α → AV} {Q : α → Prop} : ∀ {es : List AV}, (∀ x ∈ es, ∃ a, x = f a ∧ Q a) → ∃ l : List α, es = l.map f ∧ ∀ a ∈ l, Q a
  | [], _ => ⟨[], rfl, by simp⟩
  | x :: es, h => by
    obtain ⟨a, rfl, ha⟩ := h x (.head _)
    obtain ⟨l, rfl, hl⟩ := list_of (fun y hy => h y (.tail _ hy))
    exact ⟨a :: l, rfl, by simpa using ⟨ha, hl⟩⟩
/-- A slice that came in: a list of what its elements are. -/
theorem fit_sl {α : Type} {f : α → AV} {Q : α → Prop} {N k : Nat} {e : Sh} {x : AV} (h : FitE N (.sl k e) x) (he : ∀ y, FitE N e y → ∃ a, y = f a ∧ Q a) : ∃ l : List α, x = .ro k (l.map f) ∧ l.length ≤ N ∧ ∀ a ∈ l, Q a := by
  simp only [FitE, FitB, Sh.isSt, Bool.false_eq_true, if_false, Fits] at h
  obtain ⟨es, h1, h2, h3⟩ := h
  injection h1 with h1 _
  subst h1
  obtain ⟨l, rfl, hl⟩ := list_of (f := f) (Q := Q) (fun y hy => he y (h3 y hy))
  exact ⟨l, rfl, by simpa using h2, hl⟩
theorem fit_int {N : Nat} {k : IntKind} {x : AV} (h : FitE N (.int k) x) : ∃ n, x = .val (.int k n) ∧ (Lit.int k n).wf = true := by
  simp only [FitE, FitB, Sh.isSt, Bool.false_eq_true, if_false, Fits] at h
  obtain ⟨n, h1, h2⟩ := h
  injection h1 with h1 _
  exact ⟨n, h1, h2⟩
theorem fit_bool {N : Nat} {x : AV} (h : FitE N .bool x) : ∃ b, x = .val (.bool b) := by
  simp only [FitE, FitB, Sh.isSt, Bool.false_eq_true, if_false, Fits] at h
  obtain ⟨n, h1⟩ := h
  injection h1 with h1 _
  exact ⟨n, h1⟩
/-- A slice of numbers that came in. -/
theorem fit_ints {N : Nat} {k : IntKind} {x : AV} (h : FitE N (.sl 1 (.int k)) x) : ∃ l : List Int, x = .ro 1 (ints k l) ∧ l.length ≤ N ∧ ∀ n ∈ l, (Lit.int k n).wf = true :=
  fit_sl h (fun y hy => fit_int hy)
theorem fits_one {N : Nat} {s : Sh} {l : List AV} (hs : s.isSt = false) (h : Fits N s l) : ∃ x, l = [x] ∧ FitE N s x := by
  obtain ⟨x, rfl⟩ := h.single hs
  exact ⟨x, rfl, by unfold FitE FitB; rw [hs]; exact h⟩
end Go.Proofs.Ytmfbfbhkjclhkaa

/- What comes in at layer 19; PenChanges, PenChecks. No condition. -/
namespace Go.Proofs.Ytmfbfbhkjclhkaa
open Go Go.VM
attribute [local irreducible] PurV Pur Step RL W D ACalls Then InBlock Fini
set_option linter.unusedVariables false
set_option linter.unusedSimpArgs false
set_option maxHeartbeats 20000000
theorem rc_fit {N : Nat} {x : AV} (h : FitE N (.fld 1 (.int .i64) (.fld 1 (.int .i64) (.fld 1 (.int .i64) (.fld 1 (.int .i64) (.nil))))) x) : ∃ r : RC, x = r.enc ∧ r.ok := by
  obtain ⟨_, rfl, _, _, rfl, _, ⟨a, rfl, ha⟩, _, _, rfl, _, ⟨b, rfl, hb⟩, _, _, rfl, _, ⟨c, rfl, hc⟩, _, _, rfl, _, ⟨d, rfl, hd⟩, rfl⟩ := h
  exact ⟨⟨a, b, c, d⟩, rfl, wf_i64 ha, wf_i64 hb, wf_i64 hc, wf_i64 hd⟩
theorem pn_fit {N : Nat} {x : AV} (h : FitE N (.fld 1 (.int .i64) (.fld 1 (.int .u8) (.fld 1 (.int .u8) (.fld 1 (.int .u8) (.fld 1 (.int .u32) (.fld 1 (.int .i64) (.fld 1 (.int .i64) (.fld 1 (.bool) (.fld 1 (.sl 4 (.fld 1 (.int .i64) (.fld 1 (.int .i64) (.fld 1 (.int .i64) (.fld 1 (.int .i64) (.nil)))))) (.nil)))))))))) x) : ∃ p : PN, x = p.enc ∧ p.clip.length ≤ N := by
  obtain ⟨_, rfl, _, _, rfl, _, ⟨a, rfl, _⟩, _, _, rfl, _, ⟨b, rfl, _⟩, _, _, rfl, _, ⟨c, rfl, _⟩, _, _, rfl, _, ⟨d, rfl, _⟩, _, _, rfl, _, ⟨e, rfl, _⟩, _, _, rfl, _, ⟨f, rfl, _⟩, _, _, rfl, _, ⟨g, rfl, _⟩, _, _, rfl, _, hb, _, _, rfl, _, hs, rfl⟩ := h
  obtain ⟨_, rfl, hb⟩ := fits_one rfl hb
  obtain ⟨_, rfl, hs⟩ := fits_one rfl hs
  obtain ⟨bb, rfl⟩ := fit_bool (N := N) hb
  obtain ⟨l, rfl, hl, _⟩ := fit_sl (f := RC.enc) hs (fun y hy => rc_fit hy)
  exact ⟨⟨a, b, c, d, e, f, g, bb, l⟩, rfl, hl⟩
end Go.Proofs.Ytmfbfbhkjclhkaa
