/- BandGrows. No condition. -/
import Derived.Test.YtifpcjnjfdjcdaaB19
import Derived.Test.YtifpcjnjfdjcdaaG4
namespace Go.VM
open Go
set_option linter.unusedVariables false
set_option linter.unusedSimpArgs false
theorem opIn_imp {F : Fence} {n : Nat} {P : Program} {o : Oper} {a : Act} {w : World} {Q Q' : Exit → Act → World → Prop} {K K' : Act → World → Prop} (h : ∀ a w, K a w → K' a w) (hq : ∀ e a w, Q e a w → Q' e a w)
    (hh : o.wpIn F n P a w K Q) : o.wpIn F n P a w K' Q' := by
  unfold Oper.wpIn at *
  refine ⟨hh.1, ?_⟩
  have hh := hh.2
  generalize (o.semAt F.round a.eval).run P w = r at *
  cases r with
  | ok x w' =>
    cases x <;> simp only [Oper.uponIn] at hh ⊢ <;>
      first
        | exact h _ _ hh
        | exact ⟨hh.1, CallsIn.mono hh.2 (fun e w'' he => by cases e <;> first | exact h _ _ he | exact hq _ _ _ he | (obtain ⟨a, w, k⟩ := he; exact ⟨a, w, hq _ _ _ k⟩))⟩
        | exact ⟨hh.1, RowsIn.mono hh.2 (fun _ _ he => h _ _ he)⟩
        | exact ⟨hh.1, RoundIn.mono hh.2 (fun e w'' he => by cases e <;> first | exact h _ _ he | exact hq _ _ _ he | (obtain ⟨a, w, k⟩ := he; exact ⟨a, w, hq _ _ _ k⟩))⟩
  | halt x w' => cases x <;> simp only [Oper.uponIn] at hh ⊢ <;> first | exact hh | exact hq _ _ _ hh
theorem wpOpIn_imp {F : Fence} {n : Nat} {P : Program} {ops : Array Oper} {Q Q' : Exit → Act → World → Prop} {i : Nat} {a : Act} {w : World} {K K' : Act → World → Prop} (h : ∀ a w, K a w → K' a w) (hq : ∀ e a w, Q e a w → Q' e a w)
    (hh : wpOpIn F n P ops Q i K a w) : wpOpIn F n P ops Q' i K' a w := by
  unfold wpOpIn at *
  split
  · exact h _ _ (by simpa [*] using hh)
  · rename_i o ho
    simp only [ho] at hh
    split
    · rename_i hw; simp only [hw, if_true] at hh; exact opIn_imp h hq hh
    · rename_i hw; simp only [hw] at hh; exact ⟨hh.1, h _ _ hh.2⟩
theorem wpAnyIn_imp {F : Fence} {n : Nat} {P : Program} {md : Region.Mode} {ops : Array Oper} {Q Q' : Exit → Act → World → Prop} (h : ∀ e a w, Q e a w → Q' e a w) : ∀ (fuel : Nat) (l : Array Bool) (a : Act) (w : World), wpAnyIn F n P md ops Q fuel l a w → wpAnyIn F n P md ops Q' fuel l a w
  | 0, l, a, w, k => ⟨k.1, h _ _ _ k.2⟩
  | fuel + 1, l, a, w, k => ⟨fun e => h _ _ _ (k.1 e), fun i hi => wpOpIn_imp (fun a w q => wpAnyIn_imp h fuel _ a w q) h (k.2 i hi)⟩
section
variable {ro : Option Nat} {P : Program} {n : Nat} {t : List (Nat × AV)} {h : Heap} {K : St → Prop} {d : Nat} {ops : Array Oper} {hro : Heap} {todo : List Nat} {i : Nat} {oi : Oper}
/-- Whatever order a region takes, it comes to one of these states; the rest is shown once. -/
theorem R2.join {X : Type} (J : X → St) (Φ : X → Prop) (k : R2 ro P ops (fun s' => ∃ x, Φ x ∧ Le s' (J x)) n hro todo t h) (h2 : ∀ x, Φ x → K (J x)) : R2 ro P ops K n hro todo t h := .mk <| fun hok m0 w0 m a w act pend fuel c hf =>
  wpAnyIn_imp (fun e a' w' ⟨h1, s', ⟨x, hx, hle⟩, hs⟩ => ⟨h1, _, h2 x hx, hs.le hle⟩) _ _ _ _ (k.go hok m0 w0 m a w act pend fuel c hf)
end
end Go.VM
namespace Go.Proofs.Ytifpcjnjfdjcdaa
open Go Go.VM
attribute [local irreducible] PurV Pur Step RL W D ACalls Then InBlock Fini
set_option linter.unusedVariables false
set_option linter.unusedSimpArgs false
set_option maxHeartbeats 20000000
theorem boxF_has {m : List RC} (hc : ∀ r ∈ m, r.cnt) (hf : m.Pairwise fol) {x y : Int} (h : hasR m x y = true) :
    ((boxF m).x ≤ x ∧ x < (boxF m).x + (boxF m).w ∧ InM (boxF m).x ∧ InM ((boxF m).x + (boxF m).w)) ∧ (boxF m).y ≤ y ∧ y < (boxF m).y + (boxF m).h ∧ InM (boxF m).y ∧ InM ((boxF m).y + (boxF m).h) := by
  cases m with
  | nil => cases h
  | cons f l =>
    obtain ⟨r, hr, h1, h2, h3, h4⟩ := hasR_iff.1 h
    obtain ⟨n1, n2, n3⟩ := minX_le (f :: l) f.x
    obtain ⟨p1, p2, p3⟩ := maxX_le (f :: l) (f.x + f.w)
    obtain ⟨m1, m2⟩ := last_of (d := f) hf
    have n2r := n2 r hr
    have p2r := p2 r hr
    have hcf := hc f (.head _)
    have hfx : InM f.x := by obtain ⟨⟨a1, a2, a3⟩, ⟨a4, a5, a6⟩⟩ := hcf; unfold InM; omega
    have hfw : InM (f.x + f.w) := by obtain ⟨⟨a1, a2, a3⟩, ⟨a4, a5, a6⟩⟩ := hcf; unfold InM; omega
    have i1 := minX_in hfx (f :: l) hc
    have i2 := maxX_in hfw (f :: l) hc
    have hyr : f.y ≤ r.y := by
      rcases List.mem_cons.1 hr with rfl | hr
      · exact Int.le_refl _
      · have := hcf.2.2.1
        rcases (List.pairwise_cons.1 hf).1 r hr with ⟨k1, _⟩ | k1 <;> omega
    unfold boxF
    simp only
    generalize (f :: l).getLastD f = e at *
    generalize minX f.x (f :: l) = mi at *
    generalize maxX (f.x + f.w) (f :: l) = ma at *
    have hce := hc e m1
    obtain ⟨⟨a1, a2, a3⟩, ⟨a4, a5, a6⟩⟩ := hcf
    obtain ⟨⟨c1, c2, c3⟩, ⟨c4, c5, c6⟩⟩ := hce
    have hye : r.y + r.h ≤ e.y + e.h := by
      rcases m2 r hr with rfl | ⟨k1, k2, _⟩ | k1
      · exact Int.le_refl _
      · omega
      · omega
    unfold InM at *
    refine ⟨⟨?_, ?_, ?_, ?_⟩, ?_, ?_, ?_, ?_⟩ <;> omega
theorem wrapI {a : Int} (h : -4611686018427387904 ≤ a ∧ a ≤ 4611686018427387904) : IntKind.i64.wrap a = a := wrap_i64 (by omega) (by omega)
set_option maxRecDepth 100000 in
theorem grows_c (l : List RC) (m : RC) (h : Heap) (ok : ∀ r ∈ l, r.ok) (okm : m.ok) : ACalls Try.prog 9 [.ro 4 (l.map RC.enc), m.enc] h (fun r h' => r = .val (.bool true)) := by
  have hct := fun h => rcounts_c m h okm
  have okm2 := okm
  obtain ⟨mx, my, mw, mh⟩ := m
  have hme : RC.enc ⟨mx, my, mw, mh⟩ = .agg [.val (.int .i64 mx), .val (.int .i64 my), .val (.int .i64 mw), .val (.int .i64 mh)] := rfl
  rw [hme]
  simp only [hme] at hct
  refine ACalls.intro Try.func9 rfl Try.ntmps9 Try.results9 (Nat.le_of_ble_eq_true rfl) ?_
  refine W.len 0 rfl (fun hlen => ?_); simp only [ints, splice, List.length_map, List.length_append, List.length_cons, List.length_nil, List.length_take, List.length_drop, List.length_set, List.length_replicate] at hlen
  by_cases hl : 30 < l.length
  · (repeat' (first | (refine iS ?_; refine iMu ?_; refine S.mapU ?_) | refine svz ⟨fun b hq => ?_⟩ | refine sv1 ?_ | refine svs ⟨?_⟩ | refine svu ⟨fun u => ?_⟩ | (refine svg (fun hg => ?_) (fun hg => ?_) <;> try (exfalso; first | omega | contradiction)) | (refine svc (fun hc => ?_) (fun hc => ?_) <;> try (exfalso; first | omega | contradiction)) | refine sv2 ?_ | refine svh (fun hb => ?_) (fun hb => ?_) | refine svb (fun b => ?_) | refine sva ?_ | refine sv3 ?_))
    refine S.call ?_; refine (awake_c _).mono ?_; rintro r h' ⟨rfl, hh⟩; subst hh
    (repeat' (first | (refine iS ?_; refine iMu ?_; refine S.mapU ?_) | refine svz ⟨fun b hq => ?_⟩ | refine sv1 ?_ | refine svs ⟨?_⟩ | refine svu ⟨fun u => ?_⟩ | (refine svg (fun hg => ?_) (fun hg => ?_) <;> try (exfalso; first | omega | contradiction)) | (refine svc (fun hc => ?_) (fun hc => ?_) <;> try (exfalso; first | omega | contradiction)) | refine sv2 ?_ | refine svh (fun hb => ?_) (fun hb => ?_) | refine svb (fun b => ?_) | refine sva ?_ | refine sv3 ?_))
    exact fin_r (h' := _) rfl
  have okL : ∀ r ∈ l ++ [(⟨mx, my, mw, mh⟩ : RC)], r.ok := fun q hq => by
    rcases List.mem_append.1 hq with hq | hq
    · exact ok q hq
    · rw [List.mem_singleton.1 hq]; exact okm
  have hLl : (l ++ [(⟨mx, my, mw, mh⟩ : RC)]).length ≤ 31 := by rw [List.length_append, List.length_singleton]; omega
  have hof := fun h => of_c l h (by omega) ok
  have hof2 := fun h => of_c (l ++ [⟨mx, my, mw, mh⟩]) h (by omega) okL
  simp only [List.map_append, List.map_cons, List.map_nil, hme] at hof2
  (repeat' (first | (refine iS ?_; refine iMu ?_; refine S.mapU ?_) | refine svz ⟨fun b hq => ?_⟩ | refine sv1 ?_ | refine svs ⟨?_⟩ | refine svu ⟨fun u => ?_⟩ | (refine svg (fun hg => ?_) (fun hg => ?_) <;> try (exfalso; first | omega | contradiction)) | (refine svc (fun hc => ?_) (fun hc => ?_) <;> try (exfalso; first | omega | contradiction)) | refine sv2 ?_ | refine svh (fun hb => ?_) (fun hb => ?_) | refine svb (fun b => ?_) | refine sva ?_ | refine sv3 ?_))
  refine S.call ?_; refine (hof _).mono ?_; rintro r h' ⟨rfl, hh⟩; subst hh
  (repeat' (first | (refine iS ?_; refine iN ?_; first | refine S.build1r ?_ | refine S.build2r ?_ | refine S.build3r ?_) | (refine iR2 ?_; refine r2b ?_; refine R2.one ?_) | (refine iS ?_; refine iMu ?_; refine S.mapU ?_) | refine svz ⟨fun b hq => ?_⟩ | refine sv1 ?_ | refine svs ⟨?_⟩ | refine svu ⟨fun u => ?_⟩ | (refine svg (fun hg => ?_) (fun hg => ?_) <;> try (exfalso; first | omega | contradiction)) | (refine svc (fun hc => ?_) (fun hc => ?_) <;> try (exfalso; first | omega | contradiction)) | refine sv2 ?_ | refine svh (fun hb => ?_) (fun hb => ?_) | refine svb (fun b => ?_) | refine sva ?_ | refine sv3 ?_))
  revert b; intro b5
  refine R2.join (J := fun b6 : Nat => ⟨116, [(6, .val (.pointer (some ⟨b6, 0, none⟩))), (5, .val (.pointer (some ⟨b5, 0, none⟩))), (3, .val (.pointer (some ⟨b, 0, none⟩)))], .box b6 [.ro 4 ((ofF (l ++ [⟨mx, my, mw, mh⟩])).map RC.enc)] 25 :: .box b5 [.ro 4 ((ofF l).map RC.enc)] 25 :: .box b [.val (.int .i64 mx), .val (.int .i64 my), .val (.int .i64 mw), .val (.int .i64 mh)] 35 :: h⟩) (Φ := fun _ => True) ?_ ?_
  · refine R2.congr (todo' := [0, 2, 5, 6, 8, 7]) (fun x => by simp only [List.mem_cons, List.not_mem_nil, or_false]; omega) ?_
    refine R2.B2 (j := 7) (l2 := [0, 2, 5, 6, 8]) ?_ ?_ (by repeat (first | apply Sn.nil | apply Sn.cons))
    · (repeat' (first | (refine iS ?_; refine iN ?_; first | refine S.build1r ?_ | refine S.build2r ?_ | refine S.build3r ?_) | (refine iR2 ?_; refine r2b ?_; refine R2.one ?_) | (refine iS ?_; refine iMu ?_; refine S.mapU ?_) | refine svz ⟨fun b hq => ?_⟩ | refine sv1 ?_ | refine svs ⟨?_⟩ | refine svu ⟨fun u => ?_⟩ | (refine svg (fun hg => ?_) (fun hg => ?_) <;> try (exfalso; first | omega | contradiction)) | (refine svc (fun hc => ?_) (fun hc => ?_) <;> try (exfalso; first | omega | contradiction)) | refine sv2 ?_ | refine svh (fun hb => ?_) (fun hb => ?_) | refine svb (fun b => ?_) | refine sva ?_ | refine sv3 ?_))
      refine R2.B2 (j := 7) (l2 := [2, 5, 6, 8]) ?_ ?_ (by repeat (first | apply Sn.nil | apply Sn.cons))
      · (repeat' (first | (refine iS ?_; refine iN ?_; first | refine S.build1r ?_ | refine S.build2r ?_ | refine S.build3r ?_) | (refine iR2 ?_; refine r2b ?_; refine R2.one ?_) | (refine iS ?_; refine iMu ?_; refine S.mapU ?_) | refine svz ⟨fun b hq => ?_⟩ | refine sv1 ?_ | refine svs ⟨?_⟩ | refine svu ⟨fun u => ?_⟩ | (refine svg (fun hg => ?_) (fun hg => ?_) <;> try (exfalso; first | omega | contradiction)) | (refine svc (fun hc => ?_) (fun hc => ?_) <;> try (exfalso; first | omega | contradiction)) | refine sv2 ?_ | refine svh (fun hb => ?_) (fun hb => ?_) | refine svb (fun b => ?_) | refine sva ?_ | refine sv3 ?_))
        refine R2.B2 (j := 7) (l2 := [5, 6, 8]) ?_ ?_ (by repeat (first | apply Sn.nil | apply Sn.cons))
        · (repeat' (first | (refine iS ?_; refine iN ?_; first | refine S.build1r ?_ | refine S.build2r ?_ | refine S.build3r ?_) | (refine iR2 ?_; refine r2b ?_; refine R2.one ?_) | (refine iS ?_; refine iMu ?_; refine S.mapU ?_) | refine svz ⟨fun b hq => ?_⟩ | refine sv1 ?_ | refine svs ⟨?_⟩ | refine svu ⟨fun u => ?_⟩ | (refine svg (fun hg => ?_) (fun hg => ?_) <;> try (exfalso; first | omega | contradiction)) | (refine svc (fun hc => ?_) (fun hc => ?_) <;> try (exfalso; first | omega | contradiction)) | refine sv2 ?_ | refine svh (fun hb => ?_) (fun hb => ?_) | refine svb (fun b => ?_) | refine sva ?_ | refine sv3 ?_))
          refine R2.B2 (j := 7) (l2 := [6, 8]) ?_ ?_ (by repeat (first | apply Sn.nil | apply Sn.cons))
          · refine Step.frz (v := u) (by (fail_if_success (apply tkG)); (repeat (first | exact Tk.here | apply Tk.there)); first | done | fail) (by repeat' (first | apply FrzT.cons | exact FrzT.rest _ | exact Frz.hit | apply Frz.aggc | apply Frz.tupc | exact Frz.aggn | exact Frz.tupn | exact Frz.keep _)) (by repeat' (first | apply FrzH.box | apply FrzH.keep | exact FrzH.rest _ | exact Frz.hit | apply Frz.aggc | apply Frz.tupc | exact Frz.aggn | exact Frz.tupn | exact Frz.keep _)) ?_; refine S.call ?_; refine (hof2 _).mono ?_; rintro r h' ⟨rfl, hh⟩; subst hh; refine kd ?_; refine R2.rot ?_; (repeat' (first | (refine iS ?_; refine iN ?_; first | refine S.build1r ?_ | refine S.build2r ?_ | refine S.build3r ?_) | (refine iR2 ?_; refine r2b ?_; refine R2.one ?_) | (refine iS ?_; refine iMu ?_; refine S.mapU ?_) | refine svz ⟨fun b hq => ?_⟩ | refine sv1 ?_ | refine svs ⟨?_⟩ | refine svu ⟨fun u => ?_⟩ | (refine svg (fun hg => ?_) (fun hg => ?_) <;> try (exfalso; first | omega | contradiction)) | (refine svc (fun hc => ?_) (fun hc => ?_) <;> try (exfalso; first | omega | contradiction)) | refine sv2 ?_ | refine svh (fun hb => ?_) (fun hb => ?_) | refine svb (fun b => ?_) | refine sva ?_ | refine sv3 ?_)); exact ⟨b, trivial, ⟨rfl, (by repeat (first | exact LeT.nil | refine LeT.cons rfl ?_ | refine LeT.consw rfl (by (repeat (first | exact Wk.refl _ | exact Wk.nilr _ | exact Wk.nilm | apply Wk.aggc | apply Wk.tupc | exact Wk.aggn | exact Wk.tupn)); first | done | fail) ?_)), (by repeat (first | exact LeH.refl _ | exact LeH.nil _ | refine LeH.cons (by (fail_if_success (apply tkG)); (repeat (first | exact Tk.here | apply Tk.there)); first | done | fail) ?_ | refine LeH.boxw (by (fail_if_success (apply tkG)); (repeat (first | exact Tk.here | apply Tk.there)); first | done | fail) (by (repeat (first | exact Wk.refl _ | exact Wk.nilr _ | exact Wk.nilm | apply Wk.aggc | apply Wk.tupc | exact Wk.aggn | exact Wk.tupn)); first | done | fail) ?_ | refine LeH.skip ?_))⟩⟩
          · (repeat' (first | (refine iS ?_; refine iN ?_; first | refine S.build1r ?_ | refine S.build2r ?_ | refine S.build3r ?_) | (refine iR2 ?_; refine r2b ?_; refine R2.one ?_) | (refine iS ?_; refine iMu ?_; refine S.mapU ?_) | refine svz ⟨fun b hq => ?_⟩ | refine sv1 ?_ | refine svs ⟨?_⟩ | refine svu ⟨fun u => ?_⟩ | (refine svg (fun hg => ?_) (fun hg => ?_) <;> try (exfalso; first | omega | contradiction)) | (refine svc (fun hc => ?_) (fun hc => ?_) <;> try (exfalso; first | omega | contradiction)) | refine sv2 ?_ | refine svh (fun hb => ?_) (fun hb => ?_) | refine svb (fun b => ?_) | refine sva ?_ | refine sv3 ?_))
            refine R2.B ?_; refine Step.frz (v := u) (by (fail_if_success (apply tkG)); (repeat (first | exact Tk.here | apply Tk.there)); first | done | fail) (by repeat' (first | apply FrzT.cons | exact FrzT.rest _ | exact Frz.hit | apply Frz.aggc | apply Frz.tupc | exact Frz.aggn | exact Frz.tupn | exact Frz.keep _)) (by repeat' (first | apply FrzH.box | apply FrzH.keep | exact FrzH.rest _ | exact Frz.hit | apply Frz.aggc | apply Frz.tupc | exact Frz.aggn | exact Frz.tupn | exact Frz.keep _)) ?_; refine S.call ?_; refine (hof2 _).mono ?_; rintro r h' ⟨rfl, hh⟩; subst hh; refine kd ?_; (repeat' (first | (refine iS ?_; refine iN ?_; first | refine S.build1r ?_ | refine S.build2r ?_ | refine S.build3r ?_) | (refine iR2 ?_; refine r2b ?_; refine R2.one ?_) | (refine iS ?_; refine iMu ?_; refine S.mapU ?_) | refine svz ⟨fun b hq => ?_⟩ | refine sv1 ?_ | refine svs ⟨?_⟩ | refine svu ⟨fun u => ?_⟩ | (refine svg (fun hg => ?_) (fun hg => ?_) <;> try (exfalso; first | omega | contradiction)) | (refine svc (fun hc => ?_) (fun hc => ?_) <;> try (exfalso; first | omega | contradiction)) | refine sv2 ?_ | refine svh (fun hb => ?_) (fun hb => ?_) | refine svb (fun b => ?_) | refine sva ?_ | refine sv3 ?_)); exact ⟨b, trivial, ⟨rfl, (by repeat (first | exact LeT.nil | refine LeT.cons rfl ?_ | refine LeT.consw rfl (by (repeat (first | exact Wk.refl _ | exact Wk.nilr _ | exact Wk.nilm | apply Wk.aggc | apply Wk.tupc | exact Wk.aggn | exact Wk.tupn)); first | done | fail) ?_)), (by repeat (first | exact LeH.refl _ | exact LeH.nil _ | refine LeH.cons (by (fail_if_success (apply tkG)); (repeat (first | exact Tk.here | apply Tk.there)); first | done | fail) ?_ | refine LeH.boxw (by (fail_if_success (apply tkG)); (repeat (first | exact Tk.here | apply Tk.there)); first | done | fail) (by (repeat (first | exact Wk.refl _ | exact Wk.nilr _ | exact Wk.nilm | apply Wk.aggc | apply Wk.tupc | exact Wk.aggn | exact Wk.tupn)); first | done | fail) ?_ | refine LeH.skip ?_))⟩⟩
        · (repeat' (first | (refine iS ?_; refine iN ?_; first | refine S.build1r ?_ | refine S.build2r ?_ | refine S.build3r ?_) | (refine iR2 ?_; refine r2b ?_; refine R2.one ?_) | (refine iS ?_; refine iMu ?_; refine S.mapU ?_) | refine svz ⟨fun b hq => ?_⟩ | refine sv1 ?_ | refine svs ⟨?_⟩ | refine svu ⟨fun u => ?_⟩ | (refine svg (fun hg => ?_) (fun hg => ?_) <;> try (exfalso; first | omega | contradiction)) | (refine svc (fun hc => ?_) (fun hc => ?_) <;> try (exfalso; first | omega | contradiction)) | refine sv2 ?_ | refine svh (fun hb => ?_) (fun hb => ?_) | refine svb (fun b => ?_) | refine sva ?_ | refine sv3 ?_))
          refine R2.B ?_; refine Step.frz (v := u) (by (fail_if_success (apply tkG)); (repeat (first | exact Tk.here | apply Tk.there)); first | done | fail) (by repeat' (first | apply FrzT.cons | exact FrzT.rest _ | exact Frz.hit | apply Frz.aggc | apply Frz.tupc | exact Frz.aggn | exact Frz.tupn | exact Frz.keep _)) (by repeat' (first | apply FrzH.box | apply FrzH.keep | exact FrzH.rest _ | exact Frz.hit | apply Frz.aggc | apply Frz.tupc | exact Frz.aggn | exact Frz.tupn | exact Frz.keep _)) ?_; refine S.call ?_; refine (hof2 _).mono ?_; rintro r h' ⟨rfl, hh⟩; subst hh; refine kd ?_; (repeat' (first | (refine iS ?_; refine iN ?_; first | refine S.build1r ?_ | refine S.build2r ?_ | refine S.build3r ?_) | (refine iR2 ?_; refine r2b ?_; refine R2.one ?_) | (refine iS ?_; refine iMu ?_; refine S.mapU ?_) | refine svz ⟨fun b hq => ?_⟩ | refine sv1 ?_ | refine svs ⟨?_⟩ | refine svu ⟨fun u => ?_⟩ | (refine svg (fun hg => ?_) (fun hg => ?_) <;> try (exfalso; first | omega | contradiction)) | (refine svc (fun hc => ?_) (fun hc => ?_) <;> try (exfalso; first | omega | contradiction)) | refine sv2 ?_ | refine svh (fun hb => ?_) (fun hb => ?_) | refine svb (fun b => ?_) | refine sva ?_ | refine sv3 ?_)); exact ⟨b, trivial, ⟨rfl, (by repeat (first | exact LeT.nil | refine LeT.cons rfl ?_ | refine LeT.consw rfl (by (repeat (first | exact Wk.refl _ | exact Wk.nilr _ | exact Wk.nilm | apply Wk.aggc | apply Wk.tupc | exact Wk.aggn | exact Wk.tupn)); first | done | fail) ?_)), (by repeat (first | exact LeH.refl _ | exact LeH.nil _ | refine LeH.cons (by (fail_if_success (apply tkG)); (repeat (first | exact Tk.here | apply Tk.there)); first | done | fail) ?_ | refine LeH.boxw (by (fail_if_success (apply tkG)); (repeat (first | exact Tk.here | apply Tk.there)); first | done | fail) (by (repeat (first | exact Wk.refl _ | exact Wk.nilr _ | exact Wk.nilm | apply Wk.aggc | apply Wk.tupc | exact Wk.aggn | exact Wk.tupn)); first | done | fail) ?_ | refine LeH.skip ?_))⟩⟩
      · (repeat' (first | (refine iS ?_; refine iN ?_; first | refine S.build1r ?_ | refine S.build2r ?_ | refine S.build3r ?_) | (refine iR2 ?_; refine r2b ?_; refine R2.one ?_) | (refine iS ?_; refine iMu ?_; refine S.mapU ?_) | refine svz ⟨fun b hq => ?_⟩ | refine sv1 ?_ | refine svs ⟨?_⟩ | refine svu ⟨fun u => ?_⟩ | (refine svg (fun hg => ?_) (fun hg => ?_) <;> try (exfalso; first | omega | contradiction)) | (refine svc (fun hc => ?_) (fun hc => ?_) <;> try (exfalso; first | omega | contradiction)) | refine sv2 ?_ | refine svh (fun hb => ?_) (fun hb => ?_) | refine svb (fun b => ?_) | refine sva ?_ | refine sv3 ?_))
        refine R2.B ?_; refine Step.frz (v := u) (by (fail_if_success (apply tkG)); (repeat (first | exact Tk.here | apply Tk.there)); first | done | fail) (by repeat' (first | apply FrzT.cons | exact FrzT.rest _ | exact Frz.hit | apply Frz.aggc | apply Frz.tupc | exact Frz.aggn | exact Frz.tupn | exact Frz.keep _)) (by repeat' (first | apply FrzH.box | apply FrzH.keep | exact FrzH.rest _ | exact Frz.hit | apply Frz.aggc | apply Frz.tupc | exact Frz.aggn | exact Frz.tupn | exact Frz.keep _)) ?_; refine S.call ?_; refine (hof2 _).mono ?_; rintro r h' ⟨rfl, hh⟩; subst hh; refine kd ?_; (repeat' (first | (refine iS ?_; refine iN ?_; first | refine S.build1r ?_ | refine S.build2r ?_ | refine S.build3r ?_) | (refine iR2 ?_; refine r2b ?_; refine R2.one ?_) | (refine iS ?_; refine iMu ?_; refine S.mapU ?_) | refine svz ⟨fun b hq => ?_⟩ | refine sv1 ?_ | refine svs ⟨?_⟩ | refine svu ⟨fun u => ?_⟩ | (refine svg (fun hg => ?_) (fun hg => ?_) <;> try (exfalso; first | omega | contradiction)) | (refine svc (fun hc => ?_) (fun hc => ?_) <;> try (exfalso; first | omega | contradiction)) | refine sv2 ?_ | refine svh (fun hb => ?_) (fun hb => ?_) | refine svb (fun b => ?_) | refine sva ?_ | refine sv3 ?_)); exact ⟨b, trivial, ⟨rfl, (by repeat (first | exact LeT.nil | refine LeT.cons rfl ?_ | refine LeT.consw rfl (by (repeat (first | exact Wk.refl _ | exact Wk.nilr _ | exact Wk.nilm | apply Wk.aggc | apply Wk.tupc | exact Wk.aggn | exact Wk.tupn)); first | done | fail) ?_)), (by repeat (first | exact LeH.refl _ | exact LeH.nil _ | refine LeH.cons (by (fail_if_success (apply tkG)); (repeat (first | exact Tk.here | apply Tk.there)); first | done | fail) ?_ | refine LeH.boxw (by (fail_if_success (apply tkG)); (repeat (first | exact Tk.here | apply Tk.there)); first | done | fail) (by (repeat (first | exact Wk.refl _ | exact Wk.nilr _ | exact Wk.nilm | apply Wk.aggc | apply Wk.tupc | exact Wk.aggn | exact Wk.tupn)); first | done | fail) ?_ | refine LeH.skip ?_))⟩⟩
    · (repeat' (first | (refine iS ?_; refine iN ?_; first | refine S.build1r ?_ | refine S.build2r ?_ | refine S.build3r ?_) | (refine iR2 ?_; refine r2b ?_; refine R2.one ?_) | (refine iS ?_; refine iMu ?_; refine S.mapU ?_) | refine svz ⟨fun b hq => ?_⟩ | refine sv1 ?_ | refine svs ⟨?_⟩ | refine svu ⟨fun u => ?_⟩ | (refine svg (fun hg => ?_) (fun hg => ?_) <;> try (exfalso; first | omega | contradiction)) | (refine svc (fun hc => ?_) (fun hc => ?_) <;> try (exfalso; first | omega | contradiction)) | refine sv2 ?_ | refine svh (fun hb => ?_) (fun hb => ?_) | refine svb (fun b => ?_) | refine sva ?_ | refine sv3 ?_))
      refine R2.B ?_; refine Step.frz (v := u) (by (fail_if_success (apply tkG)); (repeat (first | exact Tk.here | apply Tk.there)); first | done | fail) (by repeat' (first | apply FrzT.cons | exact FrzT.rest _ | exact Frz.hit | apply Frz.aggc | apply Frz.tupc | exact Frz.aggn | exact Frz.tupn | exact Frz.keep _)) (by repeat' (first | apply FrzH.box | apply FrzH.keep | exact FrzH.rest _ | exact Frz.hit | apply Frz.aggc | apply Frz.tupc | exact Frz.aggn | exact Frz.tupn | exact Frz.keep _)) ?_; refine S.call ?_; refine (hof2 _).mono ?_; rintro r h' ⟨rfl, hh⟩; subst hh; refine kd ?_; (repeat' (first | (refine iS ?_; refine iN ?_; first | refine S.build1r ?_ | refine S.build2r ?_ | refine S.build3r ?_) | (refine iR2 ?_; refine r2b ?_; refine R2.one ?_) | (refine iS ?_; refine iMu ?_; refine S.mapU ?_) | refine svz ⟨fun b hq => ?_⟩ | refine sv1 ?_ | refine svs ⟨?_⟩ | refine svu ⟨fun u => ?_⟩ | (refine svg (fun hg => ?_) (fun hg => ?_) <;> try (exfalso; first | omega | contradiction)) | (refine svc (fun hc => ?_) (fun hc => ?_) <;> try (exfalso; first | omega | contradiction)) | refine sv2 ?_ | refine svh (fun hb => ?_) (fun hb => ?_) | refine svb (fun b => ?_) | refine sva ?_ | refine sv3 ?_)); exact ⟨b, trivial, ⟨rfl, (by repeat (first | exact LeT.nil | refine LeT.cons rfl ?_ | refine LeT.consw rfl (by (repeat (first | exact Wk.refl _ | exact Wk.nilr _ | exact Wk.nilm | apply Wk.aggc | apply Wk.tupc | exact Wk.aggn | exact Wk.tupn)); first | done | fail) ?_)), (by repeat (first | exact LeH.refl _ | exact LeH.nil _ | refine LeH.cons (by (fail_if_success (apply tkG)); (repeat (first | exact Tk.here | apply Tk.there)); first | done | fail) ?_ | refine LeH.boxw (by (fail_if_success (apply tkG)); (repeat (first | exact Tk.here | apply Tk.there)); first | done | fail) (by (repeat (first | exact Wk.refl _ | exact Wk.nilr _ | exact Wk.nilm | apply Wk.aggc | apply Wk.tupc | exact Wk.aggn | exact Wk.tupn)); first | done | fail) ?_ | refine LeH.skip ?_))⟩⟩
  · intro b6 _
    clear hof hof2
    by_cases hm : RC.cnt ⟨mx, my, mw, mh⟩
    · have hgr := area_grows l ⟨mx, my, mw, mh⟩ hm
      have hmul := hm.sm.mul
      have hone : ∀ x y, RC.has ⟨mx, my, mw, mh⟩ x y → hasR (ofF (l ++ [⟨mx, my, mw, mh⟩])) x y = true := fun x y hxy => by
        rw [has_ofF, hasF_append]
        have : hasF [(⟨mx, my, mw, mh⟩ : RC)] x y = true := hasF_iff.2 ⟨_, List.mem_singleton.2 rfl, hm, hxy⟩
        rw [this, Bool.or_true]
      have hcA := ofF_cnt l
      have hcB := ofF_cnt (l ++ [⟨mx, my, mw, mh⟩])
      have hfB := ofF_fol (l ++ [⟨mx, my, mw, mh⟩])
      have hyB := ofF_y (l ++ [⟨mx, my, mw, mh⟩])
      have hlA : (ofF l).length ≤ 30000 := by
        have := ofF_len l
        have : 2 * l.length * l.length ≤ 2 * 31 * 31 := Nat.mul_le_mul (Nat.mul_le_mul_left _ (by omega)) (by omega)
        omega
      have hlB : (ofF (l ++ [⟨mx, my, mw, mh⟩])).length ≤ 30000 := by
        have := ofF_len (l ++ [⟨mx, my, mw, mh⟩])
        have : 2 * (l ++ [(⟨mx, my, mw, mh⟩ : RC)]).length * (l ++ [(⟨mx, my, mw, mh⟩ : RC)]).length ≤ 2 * 31 * 31 := Nat.mul_le_mul (Nat.mul_le_mul_left _ hLl) hLl
        omega
      rw [decide_eq_true hm] at hct
      obtain ⟨⟨w1, w2, w3⟩, ⟨w4, w5, w6⟩⟩ := hm
      simp only at w1 w2 w3 w4 w5 w6 hmul hgr
      generalize ofF l = A at *
      generalize ofF (l ++ [⟨mx, my, mw, mh⟩]) = B at *
      have haA := fun h => barea_c A h (by omega) (fun r hr => (hcA r hr).sm)
      have haB := fun h => barea_c B h (by omega) (fun r hr => (hcB r hr).sm)
      have bA := areaF_le A (fun r hr => (hcA r hr).sm)
      have bB := areaF_le B (fun r hr => (hcB r hr).sm)
      have p1 := hone mx my (by unfold RC.has; simp only; omega)
      have p2 := hone (mx + mw - 1) (my + mh - 1) (by unfold RC.has; simp only; omega)
      have q1 := boxF_has hcB hfB p1
      have q2 := boxF_has hcB hfB p2
      have hbx := fun h => bbox_c B h (by omega) hcB
      have hh1 := fun h => bhas_c B mx my h (by omega) hcB hyB
      have hh2 := fun h => bhas_c B (mx + mw - 1) (my + mh - 1) h (by omega) hcB hyB
      simp only [p1] at hh1
      simp only [p2] at hh2
      generalize boxF B = X at *
      obtain ⟨bx, y0, bw, bh⟩ := X
      have hbe : RC.enc ⟨bx, y0, bw, bh⟩ = .agg [.val (.int .i64 bx), .val (.int .i64 y0), .val (.int .i64 bw), .val (.int .i64 bh)] := rfl
      simp only [hbe] at hbx
      unfold InM at q1 q2
      simp only at q1 q2
      generalize areaF A = a1 at *
      generalize areaF B = a2 at *
      obtain ⟨⟨q11, q12, q13, q14⟩, q15, q16, q17, q18⟩ := q1
      obtain ⟨⟨q21, q22, q23, q24⟩, q25, q26, q27, q28⟩ := q2
      obtain ⟨g1, g2⟩ := hgr
      (repeat' (first | (refine iS ?_; refine iMu ?_; refine S.mapU ?_) | refine svz ⟨fun b hq => ?_⟩ | refine sv1 ?_ | refine svs ⟨?_⟩ | refine svu ⟨fun u => ?_⟩ | (refine svg (fun hg => ?_) (fun hg => ?_) <;> try (exfalso; first | omega | contradiction)) | (refine svc (fun hc => ?_) (fun hc => ?_) <;> try (exfalso; first | omega | contradiction)) | refine sv2 ?_ | refine svh (fun hb => ?_) (fun hb => ?_) | refine svb (fun b => ?_) | refine sva ?_ | refine sv3 ?_))
      refine S.call ?_; refine (hct _).mono ?_; rintro r h' ⟨rfl, hh⟩; subst hh
      (repeat' (first | (refine iS ?_; refine iMu ?_; refine S.mapU ?_) | refine svz ⟨fun b hq => ?_⟩ | refine sv1 ?_ | refine svs ⟨?_⟩ | refine svu ⟨fun u => ?_⟩ | (refine svg (fun hg => ?_) (fun hg => ?_) <;> try (exfalso; first | omega | contradiction)) | (refine svc (fun hc => ?_) (fun hc => ?_) <;> try (exfalso; first | omega | contradiction)) | refine sv2 ?_ | refine svh (fun hb => ?_) (fun hb => ?_) | refine svb (fun b => ?_) | refine sva ?_ | refine sv3 ?_))
      refine R2.C (haB _) ?_
      (repeat' (first | (refine iS ?_; refine iMu ?_; refine S.mapU ?_) | refine svz ⟨fun b hq => ?_⟩ | refine sv1 ?_ | refine svs ⟨?_⟩ | refine svu ⟨fun u => ?_⟩ | (refine svg (fun hg => ?_) (fun hg => ?_) <;> try (exfalso; first | omega | contradiction)) | (refine svc (fun hc => ?_) (fun hc => ?_) <;> try (exfalso; first | omega | contradiction)) | refine sv2 ?_ | refine svh (fun hb => ?_) (fun hb => ?_) | refine svb (fun b => ?_) | refine sva ?_ | refine sv3 ?_))
      refine R2.C (haA _) ?_
      (repeat' (first | (refine iS ?_; refine iMu ?_; refine S.mapU ?_) | refine svz ⟨fun b hq => ?_⟩ | refine sv1 ?_ | refine svs ⟨?_⟩ | refine svu ⟨fun u => ?_⟩ | (refine svg (fun hg => ?_) (fun hg => ?_) <;> try (exfalso; first | omega | contradiction)) | (refine svc (fun hc => ?_) (fun hc => ?_) <;> try (exfalso; first | omega | contradiction)) | refine sv2 ?_ | refine svh (fun hb => ?_) (fun hb => ?_) | refine svb (fun b => ?_) | refine sva ?_ | refine sv3 ?_))
      refine S.call ?_; refine (hbx _).mono ?_; rintro r h' ⟨rfl, hh⟩; subst hh
      (repeat' (first | (refine iS ?_; refine iMu ?_; refine S.mapU ?_) | refine svz ⟨fun b hq => ?_⟩ | refine sv1 ?_ | refine svs ⟨?_⟩ | refine svu ⟨fun u => ?_⟩ | (refine svg (fun hg => ?_) (fun hg => ?_) <;> try (exfalso; first | omega | contradiction)) | (refine svc (fun hc => ?_) (fun hc => ?_) <;> try (exfalso; first | omega | contradiction)) | refine sv2 ?_ | refine svh (fun hb => ?_) (fun hb => ?_) | refine svb (fun b => ?_) | refine sva ?_ | refine sv3 ?_))
      refine S.call ?_; refine (hh1 _).mono ?_; rintro r h' ⟨rfl, hh⟩; subst hh
      (repeat' (first | (refine iS ?_; refine iMu ?_; refine S.mapU ?_) | refine svz ⟨fun b hq => ?_⟩ | refine sv1 ?_ | refine svs ⟨?_⟩ | refine svu ⟨fun u => ?_⟩ | (refine svg (fun hg => ?_) (fun hg => ?_) <;> try (exfalso; first | omega | contradiction)) | (refine svc (fun hc => ?_) (fun hc => ?_) <;> try (exfalso; first | omega | contradiction)) | refine sv2 ?_ | refine svh (fun hb => ?_) (fun hb => ?_) | refine svb (fun b => ?_) | refine sva ?_ | refine sv3 ?_))
      refine S.call ?_; refine (hh2 _).mono ?_; rintro r h' ⟨rfl, hh⟩; subst hh
      (repeat' (first | (refine iS ?_; refine iMu ?_; refine S.mapU ?_) | refine svz ⟨fun b hq => ?_⟩ | refine sv1 ?_ | refine svs ⟨?_⟩ | refine svu ⟨fun u => ?_⟩ | (refine svg (fun hg => ?_) (fun hg => ?_) <;> try (exfalso; first | omega | contradiction)) | (refine svc (fun hc => ?_) (fun hc => ?_) <;> try (exfalso; first | omega | contradiction)) | refine sv2 ?_ | refine svh (fun hb => ?_) (fun hb => ?_) | refine svb (fun b => ?_) | refine sva ?_ | refine sv3 ?_))
      refine S.call ?_; refine (awake_c _).mono ?_; rintro r h' ⟨rfl, hh⟩; subst hh
      (repeat' (first | (refine iS ?_; refine iMu ?_; refine S.mapU ?_) | refine svz ⟨fun b hq => ?_⟩ | refine sv1 ?_ | refine svs ⟨?_⟩ | refine svu ⟨fun u => ?_⟩ | (refine svg (fun hg => ?_) (fun hg => ?_) <;> try (exfalso; first | omega | contradiction)) | (refine svc (fun hc => ?_) (fun hc => ?_) <;> try (exfalso; first | omega | contradiction)) | refine sv2 ?_ | refine svh (fun hb => ?_) (fun hb => ?_) | refine svb (fun b => ?_) | refine sva ?_ | refine sv3 ?_))
      exact fin_r (h' := _) rfl
    · have he : ofF (l ++ [⟨mx, my, mw, mh⟩]) = ofF l := ofF_eq.2 fun x y => by
        rw [hasF_append]
        have : hasF [(⟨mx, my, mw, mh⟩ : RC)] x y = false := by unfold hasF; simp [hm]
        rw [this, Bool.or_false]
      have hsa := fun h => same_c (ofF l) (ofF l) h
      rw [decide_eq_true rfl] at hsa
      rw [decide_eq_false hm] at hct
      rw [he]
      (repeat' (first | (refine iS ?_; refine iMu ?_; refine S.mapU ?_) | refine svz ⟨fun b hq => ?_⟩ | refine sv1 ?_ | refine svs ⟨?_⟩ | refine svu ⟨fun u => ?_⟩ | (refine svg (fun hg => ?_) (fun hg => ?_) <;> try (exfalso; first | omega | contradiction)) | (refine svc (fun hc => ?_) (fun hc => ?_) <;> try (exfalso; first | omega | contradiction)) | refine sv2 ?_ | refine svh (fun hb => ?_) (fun hb => ?_) | refine svb (fun b => ?_) | refine sva ?_ | refine sv3 ?_))
      refine S.call ?_; refine (hct _).mono ?_; rintro r h' ⟨rfl, hh⟩; subst hh
      (repeat' (first | (refine iS ?_; refine iMu ?_; refine S.mapU ?_) | refine svz ⟨fun b hq => ?_⟩ | refine sv1 ?_ | refine svs ⟨?_⟩ | refine svu ⟨fun u => ?_⟩ | (refine svg (fun hg => ?_) (fun hg => ?_) <;> try (exfalso; first | omega | contradiction)) | (refine svc (fun hc => ?_) (fun hc => ?_) <;> try (exfalso; first | omega | contradiction)) | refine sv2 ?_ | refine svh (fun hb => ?_) (fun hb => ?_) | refine svb (fun b => ?_) | refine sva ?_ | refine sv3 ?_))
      refine S.call ?_; refine (hsa _).mono ?_; rintro r h' ⟨rfl, hh⟩; subst hh
      (repeat' (first | (refine iS ?_; refine iMu ?_; refine S.mapU ?_) | refine svz ⟨fun b hq => ?_⟩ | refine sv1 ?_ | refine svs ⟨?_⟩ | refine svu ⟨fun u => ?_⟩ | (refine svg (fun hg => ?_) (fun hg => ?_) <;> try (exfalso; first | omega | contradiction)) | (refine svc (fun hc => ?_) (fun hc => ?_) <;> try (exfalso; first | omega | contradiction)) | refine sv2 ?_ | refine svh (fun hb => ?_) (fun hb => ?_) | refine svb (fun b => ?_) | refine sva ?_ | refine sv3 ?_))
      refine S.call ?_; refine (awake_c _).mono ?_; rintro r h' ⟨rfl, hh⟩; subst hh
      (repeat' (first | (refine iS ?_; refine iMu ?_; refine S.mapU ?_) | refine svz ⟨fun b hq => ?_⟩ | refine sv1 ?_ | refine svs ⟨?_⟩ | refine svu ⟨fun u => ?_⟩ | (refine svg (fun hg => ?_) (fun hg => ?_) <;> try (exfalso; first | omega | contradiction)) | (refine svc (fun hc => ?_) (fun hc => ?_) <;> try (exfalso; first | omega | contradiction)) | refine sv2 ?_ | refine svh (fun hb => ?_) (fun hb => ?_) | refine svb (fun b => ?_) | refine sva ?_ | refine sv3 ?_))
      exact fin_r (h' := _) rfl
end Go.Proofs.Ytifpcjnjfdjcdaa
