import Derived.Test.YtdknjjgmmmmfjaaW2
import Derived.Test.YtdknjjgmmmmfjaaW3
import Derived.Test.YtdknjjgmmmmfjaaVR3
/- The law's own example. No condition. -/
namespace Go.Proofs.Ytdknjjgmmmmfjaa
open Go Go.VM
attribute [local irreducible] PurV Pur Step RL W D ACalls Then InBlock Fini
set_option linter.unusedVariables false
set_option linter.unusedSimpArgs false
set_option maxHeartbeats 20000000
def txtA : ByteArray := ⟨#[5, 2]⟩
def lisA : List RC := [⟨0, 0, 1, 1⟩, ⟨2, 0, 1, 1⟩, ⟨1, 1, 1, 1⟩]
theorem txt_ones : onesP txtA 1 (8 * txtA.size) = [(0, 0), (2, 0), (1, 1)] := by decide +kernel
theorem txt_list : listO (onesP txtA 1 (8 * txtA.size)) = lisA := by rw [txt_ones]; rfl
theorem lis_bx : Bx 0 4 (ofF lisA) := .of fun r hr hc => by
  unfold lisA at hr
  simp only [List.mem_cons, List.not_mem_nil, or_false] at hr
  rcases hr with rfl | rfl | rfl <;> (dsimp only; omega)
theorem lis_area : areaF (ofF lisA) = 3 := by
  rw [lis_bx.area, show hasR (ofF lisA) = hasF lisA from by funext x y; exact has_ofF _ x y]
  decide +kernel
def sqA : RC := ⟨3, 3, 3, 3⟩
theorem gr_sq : growF 1 [⟨4, 4, 1, 1⟩] = [sqA] := of_cnt (r := sqA) (by decide)
theorem ed_sq : hasR (edgeF [sqA]) = fun x y => hasR [sqA] x y && !(hasR [⟨4, 3, 1, 3⟩] x y && hasR [⟨3, 4, 3, 1⟩] x y) := by
  have e1 : thinF 1 [sqA] = [⟨4, 3, 1, 3⟩] := of_cnt (r := ⟨4, 3, 1, 3⟩) (by decide)
  have e2 : lowF 1 [sqA] = [⟨3, 4, 3, 1⟩] := by
    unfold lowF
    rw [show turnF [sqA] = [sqA] from of_cnt (r := sqA) (by decide), e1]
    exact of_cnt (r := ⟨3, 4, 3, 1⟩) (by decide)
  have c1 : Can [sqA] := of_cnt (r := sqA) (by decide)
  have c2 : Can [(⟨4, 3, 1, 3⟩ : RC)] := of_cnt (by decide)
  have c3 : Can [(⟨3, 4, 3, 1⟩ : RC)] := of_cnt (by decide)
  funext x y
  unfold edgeF
  rw [e1, e2, has_join c1 (can_join _ _ _) rfl, has_join c2 c3 rfl]
theorem sq_bx : Bx 0 8 [sqA] := ⟨of_cnt (r := sqA) (by decide), fun r hr => by
  have : r = sqA := by simpa using hr
  subst this; decide⟩
theorem ed_bx : Bx 0 8 (edgeF [sqA]) := Bx.left (fun _ => rfl) sq_bx (can_join _ _ _)
theorem ed_area : areaF (edgeF [sqA]) = 8 := by
  rw [ed_bx.area, ed_sq]
  decide +kernel
set_option maxRecDepth 100000 in
theorem awake_c (h : Heap) : ACalls Try.prog 10 [] h (fun r h' => r = .val (.bool true) ∧ h' = h) := by
  have c0 : Can [(⟨4, 4, 1, 1⟩ : RC)] := of_cnt (by decide)
  have o1 := fun h => sof_c 3 2 1 txtA h (by decide) (by decide) (by decide) (by decide) (by decide) (by decide) (by rw [txt_ones]; decide)
  rw [txt_list] at o1
  have o2 : ∀ h, _ := fun h => of_c [(⟨4, 4, 1, 1⟩ : RC)] h (by decide) (fun r hr => by
    have : r = ⟨4, 4, 1, 1⟩ := by simpa using hr
    subst this; exact ok_of (by decide))
  rw [show ofF [(⟨4, 4, 1, 1⟩ : RC)] = [⟨4, 4, 1, 1⟩] from c0] at o2
  have o3 := fun h => grow_more [(⟨4, 4, 1, 1⟩ : RC)] 1 h (by decide) c0 (by decide) (by decide)
  rw [gr_sq] at o3
  have o4 := fun h => barea_c (ofF lisA) h (by have := lis_bx.len; omega) (fun r hr => (lis_bx.can.cnt r hr).sm)
  rw [lis_area] at o4
  have o5 := fun x y h => bhas_c (ofF lisA) x y h (by have := lis_bx.len; omega) lis_bx.can.cnt lis_bx.can.y
  have o51 := o5 2 0
  have o52 := o5 1 1
  rw [show hasR (ofF lisA) 2 0 = true from by rw [has_ofF]; decide] at o51
  rw [show hasR (ofF lisA) 1 1 = true from by rw [has_ofF]; decide] at o52
  clear o5
  have o6 := fun h => barea_c [sqA] h (by decide) (fun r hr => (sq_bx.can.cnt r hr).sm)
  rw [show areaF [sqA] = 9 from by decide +kernel] at o6
  have o7 := fun h => edge_c [sqA] h sq_bx (by decide)
  have o8 := fun h => barea_c (edgeF [sqA]) h (by have := ed_bx.len; omega) (fun r hr => (ed_bx.can.cnt r hr).sm)
  rw [ed_area] at o8
  generalize ofF lisA = R0 at *
  generalize edgeF [sqA] = E0 at *
  generalize [sqA] = G0 at *
  rw [show ([(⟨4, 4, 1, 1⟩ : RC)] : List RC).map RC.enc = [.agg [.val (.int .i64 4), .val (.int .i64 4), .val (.int .i64 1), .val (.int .i64 1)]] from rfl] at o2
  unfold regE at *
  rw [show ([(⟨4, 4, 1, 1⟩ : RC)] : List RC).map RC.enc = [.agg [.val (.int .i64 4), .val (.int .i64 4), .val (.int .i64 1), .val (.int .i64 1)]] from rfl] at o3
  unfold txtA at o1
  refine ACalls.intro Try.func10 rfl Try.ntmps10 Try.results10 (Nat.le_of_ble_eq_true rfl) ?_
  (repeat' (first | (refine iR2 ?_; refine r2b ?_; refine R2.one ?_) | (refine iS ?_; refine iN ?_; refine S.build1r ?_) | (refine iS ?_; refine iMu ?_; refine S.mapU ?_) | refine svz ⟨fun b hq => ?_⟩ | refine sv1 ?_ | refine svs ⟨?_⟩ | refine svu ⟨fun u => ?_⟩ | (refine svg (fun hg => ?_) (fun hg => ?_) <;> try (exfalso; first | omega | contradiction)) | (refine svc (fun hc => ?_) (fun hc => ?_) <;> try (exfalso; first | omega | contradiction)) | refine sv2 ?_ | refine svh (fun hb => ?_) (fun hb => ?_) | refine svb (fun b => ?_) | refine sva ?_ | refine sv3 ?_))
  refine S.call ?_; refine (o1 _).mono ?_; rintro r h' ⟨rfl, hh⟩; subst hh
  (repeat' (first | (refine iR2 ?_; refine r2b ?_; refine R2.one ?_) | (refine iS ?_; refine iN ?_; refine S.build1r ?_) | (refine iS ?_; refine iMu ?_; refine S.mapU ?_) | refine svz ⟨fun b hq => ?_⟩ | refine sv1 ?_ | refine svs ⟨?_⟩ | refine svu ⟨fun u => ?_⟩ | (refine svg (fun hg => ?_) (fun hg => ?_) <;> try (exfalso; first | omega | contradiction)) | (refine svc (fun hc => ?_) (fun hc => ?_) <;> try (exfalso; first | omega | contradiction)) | refine sv2 ?_ | refine svh (fun hb => ?_) (fun hb => ?_) | refine svb (fun b => ?_) | refine sva ?_ | refine sv3 ?_))
  refine S.call ?_; refine (o2 _).mono ?_; rintro r h' ⟨rfl, hh⟩; subst hh
  (repeat' (first | (refine iR2 ?_; refine r2b ?_; refine R2.one ?_) | (refine iS ?_; refine iN ?_; refine S.build1r ?_) | (refine iS ?_; refine iMu ?_; refine S.mapU ?_) | refine svz ⟨fun b hq => ?_⟩ | refine sv1 ?_ | refine svs ⟨?_⟩ | refine svu ⟨fun u => ?_⟩ | (refine svg (fun hg => ?_) (fun hg => ?_) <;> try (exfalso; first | omega | contradiction)) | (refine svc (fun hc => ?_) (fun hc => ?_) <;> try (exfalso; first | omega | contradiction)) | refine sv2 ?_ | refine svh (fun hb => ?_) (fun hb => ?_) | refine svb (fun b => ?_) | refine sva ?_ | refine sv3 ?_))
  refine S.call ?_; refine (o3 _).mono ?_; rintro r h' ⟨rfl, hh⟩; subst hh
  (repeat' (first | (refine iR2 ?_; refine r2b ?_; refine R2.one ?_) | (refine iS ?_; refine iN ?_; refine S.build1r ?_) | (refine iS ?_; refine iMu ?_; refine S.mapU ?_) | refine svz ⟨fun b hq => ?_⟩ | refine sv1 ?_ | refine svs ⟨?_⟩ | refine svu ⟨fun u => ?_⟩ | (refine svg (fun hg => ?_) (fun hg => ?_) <;> try (exfalso; first | omega | contradiction)) | (refine svc (fun hc => ?_) (fun hc => ?_) <;> try (exfalso; first | omega | contradiction)) | refine sv2 ?_ | refine svh (fun hb => ?_) (fun hb => ?_) | refine svb (fun b => ?_) | refine sva ?_ | refine sv3 ?_))
  refine S.call ?_; refine (o4 _).mono ?_; rintro r h' ⟨rfl, hh⟩; subst hh
  (repeat' (first | (refine iR2 ?_; refine r2b ?_; refine R2.one ?_) | (refine iS ?_; refine iN ?_; refine S.build1r ?_) | (refine iS ?_; refine iMu ?_; refine S.mapU ?_) | refine svz ⟨fun b hq => ?_⟩ | refine sv1 ?_ | refine svs ⟨?_⟩ | refine svu ⟨fun u => ?_⟩ | (refine svg (fun hg => ?_) (fun hg => ?_) <;> try (exfalso; first | omega | contradiction)) | (refine svc (fun hc => ?_) (fun hc => ?_) <;> try (exfalso; first | omega | contradiction)) | refine sv2 ?_ | refine svh (fun hb => ?_) (fun hb => ?_) | refine svb (fun b => ?_) | refine sva ?_ | refine sv3 ?_))
  refine S.call ?_; refine (o51 _).mono ?_; rintro r h' ⟨rfl, hh⟩; subst hh
  (repeat' (first | (refine iR2 ?_; refine r2b ?_; refine R2.one ?_) | (refine iS ?_; refine iN ?_; refine S.build1r ?_) | (refine iS ?_; refine iMu ?_; refine S.mapU ?_) | refine svz ⟨fun b hq => ?_⟩ | refine sv1 ?_ | refine svs ⟨?_⟩ | refine svu ⟨fun u => ?_⟩ | (refine svg (fun hg => ?_) (fun hg => ?_) <;> try (exfalso; first | omega | contradiction)) | (refine svc (fun hc => ?_) (fun hc => ?_) <;> try (exfalso; first | omega | contradiction)) | refine sv2 ?_ | refine svh (fun hb => ?_) (fun hb => ?_) | refine svb (fun b => ?_) | refine sva ?_ | refine sv3 ?_))
  refine S.call ?_; refine (o52 _).mono ?_; rintro r h' ⟨rfl, hh⟩; subst hh
  (repeat' (first | (refine iR2 ?_; refine r2b ?_; refine R2.one ?_) | (refine iS ?_; refine iN ?_; refine S.build1r ?_) | (refine iS ?_; refine iMu ?_; refine S.mapU ?_) | refine svz ⟨fun b hq => ?_⟩ | refine sv1 ?_ | refine svs ⟨?_⟩ | refine svu ⟨fun u => ?_⟩ | (refine svg (fun hg => ?_) (fun hg => ?_) <;> try (exfalso; first | omega | contradiction)) | (refine svc (fun hc => ?_) (fun hc => ?_) <;> try (exfalso; first | omega | contradiction)) | refine sv2 ?_ | refine svh (fun hb => ?_) (fun hb => ?_) | refine svb (fun b => ?_) | refine sva ?_ | refine sv3 ?_))
  refine S.call ?_; refine (o6 _).mono ?_; rintro r h' ⟨rfl, hh⟩; subst hh
  (repeat' (first | (refine iR2 ?_; refine r2b ?_; refine R2.one ?_) | (refine iS ?_; refine iN ?_; refine S.build1r ?_) | (refine iS ?_; refine iMu ?_; refine S.mapU ?_) | refine svz ⟨fun b hq => ?_⟩ | refine sv1 ?_ | refine svs ⟨?_⟩ | refine svu ⟨fun u => ?_⟩ | (refine svg (fun hg => ?_) (fun hg => ?_) <;> try (exfalso; first | omega | contradiction)) | (refine svc (fun hc => ?_) (fun hc => ?_) <;> try (exfalso; first | omega | contradiction)) | refine sv2 ?_ | refine svh (fun hb => ?_) (fun hb => ?_) | refine svb (fun b => ?_) | refine sva ?_ | refine sv3 ?_))
  refine S.call ?_; refine (o7 _).mono ?_; rintro r h' ⟨rfl, hh⟩; subst hh
  (repeat' (first | (refine iR2 ?_; refine r2b ?_; refine R2.one ?_) | (refine iS ?_; refine iN ?_; refine S.build1r ?_) | (refine iS ?_; refine iMu ?_; refine S.mapU ?_) | refine svz ⟨fun b hq => ?_⟩ | refine sv1 ?_ | refine svs ⟨?_⟩ | refine svu ⟨fun u => ?_⟩ | (refine svg (fun hg => ?_) (fun hg => ?_) <;> try (exfalso; first | omega | contradiction)) | (refine svc (fun hc => ?_) (fun hc => ?_) <;> try (exfalso; first | omega | contradiction)) | refine sv2 ?_ | refine svh (fun hb => ?_) (fun hb => ?_) | refine svb (fun b => ?_) | refine sva ?_ | refine sv3 ?_))
  refine S.call ?_; refine (o8 _).mono ?_; rintro r h' ⟨rfl, hh⟩; subst hh
  (repeat' (first | (refine iR2 ?_; refine r2b ?_; refine R2.one ?_) | (refine iS ?_; refine iN ?_; refine S.build1r ?_) | (refine iS ?_; refine iMu ?_; refine S.mapU ?_) | refine svz ⟨fun b hq => ?_⟩ | refine sv1 ?_ | refine svs ⟨?_⟩ | refine svu ⟨fun u => ?_⟩ | (refine svg (fun hg => ?_) (fun hg => ?_) <;> try (exfalso; first | omega | contradiction)) | (refine svc (fun hc => ?_) (fun hc => ?_) <;> try (exfalso; first | omega | contradiction)) | refine sv2 ?_ | refine svh (fun hb => ?_) (fun hb => ?_) | refine svb (fun b => ?_) | refine sva ?_ | refine sv3 ?_))
  exact fin_r (h' := h') ⟨rfl, rfl⟩
end Go.Proofs.Ytdknjjgmmmmfjaa

/- What came in, told as lists. No condition. -/
namespace Go.Proofs.Ytdknjjgmmmmfjaa
open Go Go.VM
set_option linter.unusedVariables false
set_option linter.unusedSimpArgs false
theorem wf_u8 {n : Int} (h : (Lit.int .u8 n).wf = true) : 0 ≤ n ∧ n ≤ 255 := by
  simp [Lit.wf, IntKind.min, IntKind.max, IntKind.signed, IntKind.bits] at h; omega
theorem list_of {α : Type} {f : α → AV} {Q : α → Prop} : ∀ {es : List AV}, (∀ x ∈ es, ∃ a, x = f a ∧ Q a) → ∃ l : List α, es = l.map f ∧ ∀ a ∈ l, Q a
  | [], _ => ⟨[], rfl, by simp⟩
  | x :: es, h => by
    obtain ⟨a, rfl, ha⟩ := h x (.head _)
    obtain ⟨l, rfl, hl⟩ := list_of (fun y hy => h y (.tail _ hy))
    exact ⟨a :: l, rfl, by simpa using ⟨ha, hl⟩⟩
/-- A slice that came in: a list of what its elements are. -/
theorem fit_sl {α : Type} {f : α → AV} {Q : α → Prop} {N k : Nat} {e : Sh} {x : AV} (h : FitE N (.sl k e) x) (he : ∀ y, FitE N e y → ∃ a, y = f a ∧ Q a) : ∃ l : List α, x = .ro k (l.map f) ∧ l.length ≤ N ∧ ∀ a ∈ l, Q a := by
  simp only [FitE, FitB, Sh.isSt, Bool.false_eq_true, if_false, Fits] at h
  obtain ⟨es, h1, h2, h3⟩ := h
  injection h1 with h1 _
  subst h1
  obtain ⟨l, rfl, hl⟩ := list_of (f := f) (Q := Q) (fun y hy => he y (h3 y hy))
  exact ⟨l, rfl, by simpa using h2, hl⟩
theorem fit_int {N : Nat} {k : IntKind} {x : AV} (h : FitE N (.int k) x) : ∃ n, x = .val (.int k n) ∧ (Lit.int k n).wf = true := by
  simp only [FitE, FitB, Sh.isSt, Bool.false_eq_true, if_false, Fits] at h
  obtain ⟨n, h1, h2⟩ := h
  injection h1 with h1 _
  exact ⟨n, h1, h2⟩
end Go.Proofs.Ytdknjjgmmmmfjaa
