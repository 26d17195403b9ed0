/- PolyRects walked. No condition. -/
import Derived.Test.YtkeclfcjmdhcfaaO16
namespace Go.Proofs.Ytkeclfcjmdhcfaa
open Go Go.VM
attribute [local irreducible] PurV Pur Step RL W D ACalls Then InBlock Fini
set_option linter.unusedVariables false
set_option linter.unusedSimpArgs false
set_option maxHeartbeats 20000000
def sideF (c : Int) : Int := 1 + (c % 65536) % 4000
theorem side_bd (c : Int) : 1 ≤ sideF c ∧ sideF c ≤ 4000 := by unfold sideF; omega
theorem rect_check {x y w h : Int} (t : Bool) (r : Int) (hr : r = 0 ∨ r = 1) (hx : -40000 ≤ x ∧ x ≤ 40000) (hy : -40000 ≤ y ∧ y ≤ 40000) (hw : 1 ≤ w ∧ w ≤ 4000) (hh : 1 ≤ h ∧ h ≤ 4000) : checkF r (rectP x y w h t) = 0 ∧ (rectP x y w h t).length = 4 ∧ ∀ p ∈ rectP x y w h t, (x ≤ p.x ∧ p.x ≤ x + w) ∧ y ≤ p.y ∧ p.y ≤ y + h := by
  have hl : (rectP x y w h t).length = 4 := by unfold rectP; split <;> rfl
  have hm : ∀ p ∈ rectP x y w h t, (x ≤ p.x ∧ p.x ≤ x + w) ∧ y ≤ p.y ∧ p.y ≤ y + h := fun p hp => by
    unfold rectP at hp
    split at hp <;> (simp only [List.mem_cons, List.not_mem_nil, or_false] at hp; rcases hp with rfl | rfl | rfl | rfl <;> (dsimp only; omega))
  have hn : allNear (rectP x y w h t) = true := allNear_iff.2 fun p hp => by have := hm p hp; unfold PT.near nearI; omega
  have hc : closeB (rectP x y w h t) = true := closeB_iff.2 fun a ha b hb => by have := hm a ha; have := hm b hb; unfold closeP; omega
  refine ⟨?_, hl, hm⟩
  unfold checkF
  rw [if_pos (show knownF r = true from decide_eq_true hr), if_neg (by omega), if_pos hn, if_pos hc]
theorem rect_reg {x y w h r : Int} {t : Bool} {D : List RC} (hD : PolyD r (rectP x y w h t) D) (hx : -40000 ≤ x ∧ x ≤ 40000) (hy : -40000 ≤ y ∧ y ≤ 40000) (hw : 1 ≤ w ∧ w ≤ 4000) (hh : 1 ≤ h ∧ h ≤ 4000) : ofF D = ofF [⟨x, y, w, h⟩] := by
  rw [ofF_eq]
  intro u v
  rw [hD.has, ins_rect hw.1 hh.1]
  have hc : RC.cnt ⟨x, y, w, h⟩ := by unfold RC.cnt fitP; dsimp only; omega
  unfold hasF RC.has
  simp [hc]
  rw [Bool.eq_iff_iff]
  simp only [Bool.and_eq_true, decide_eq_true_eq]
  exact ⟨fun q => decide_eq_true q, fun q => of_decide_eq_true q⟩
theorem rect_twice {x y w h : Int} (t : Bool) (hw : 1 ≤ w ∧ w ≤ 4000) (hh : 1 ≤ h ∧ h ≤ 4000) : decide (twiceF (rectP x y w h t) = 2 * w * h) = !t := by
  have : 1 ≤ 2 * w * h := by have := Int.mul_le_mul (show 1 ≤ w from hw.1) (show 1 ≤ h from hh.1) (by omega) (by omega); rw [Int.mul_assoc]; omega
  cases t
  · rw [twice_rect0]; simp
  · rw [twice_rect1, decide_eq_false (by omega)]; rfl
theorem sw (c : Int) : IntKind.i64.wrap (1 + IntKind.i64.wrap ((IntKind.u16.wrap c).tmod 4000)) = sideF c := by
  have e1 : IntKind.u16.wrap c = c % 65536 := rfl
  have e2 : (c % 65536).tmod 4000 = (c % 65536) % 4000 := Int.tmod_eq_emod_of_nonneg (by omega)
  have e3 : IntKind.i64.wrap (c % 65536 % 4000) = c % 65536 % 4000 := wrap_i64 (by omega) (by omega)
  rw [e1, e2, e3, wrap_i64 (by omega) (by omega)]
  rfl
set_option maxRecDepth 100000 in
theorem rects_c (t : Bool) (a b c d : Int) (ha : -32768 ≤ a ∧ a ≤ 32767) (hb : -32768 ≤ b ∧ b ≤ 32767) (hc : -32768 ≤ c ∧ c ≤ 32767) (hd : -32768 ≤ d ∧ d ≤ 32767) :
    ACalls Try.prog 10 [.agg [.val (.int .i16 (a)), .val (.int .i16 (b)), .val (.int .i16 (c)), .val (.int .i16 (d))], .val (.bool t)] [] (fun r h' => r = .val (.bool true)) := by
  have hw := side_bd c
  have hh := side_bd d
  refine ACalls.intro Try.func10 rfl Try.ntmps10 Try.results10 (Nat.le_of_ble_eq_true rfl) ?_
  (repeat' (first | (refine iS ?_; refine iMu ?_; refine S.mapU ?_) | refine svz ⟨fun b hq => ?_⟩ | refine sv1 ?_ | refine svs ⟨?_⟩ | refine svu ⟨fun u => ?_⟩ | (refine svg (fun hg => ?_) (fun hg => ?_) <;> try (exfalso; first | omega | contradiction)) | (refine svc (fun hc => ?_) (fun hc => ?_) <;> try (exfalso; first | omega | contradiction)) | refine sv2 ?_ | refine svh (fun hb => ?_) (fun hb => ?_) | refine svb (fun b => ?_) | refine sva ?_ | refine sv3 ?_))
  refine R2.T (v := .val (.pointer (some ⟨b, 0, none⟩))) ?_ (hp := .l rfl (pur_index_arr (n := 4) (k := 1) (j := 0) rfl rfl rfl (by decide)).pur)
  (repeat' (first | (refine iS ?_; refine iMu ?_; refine S.mapU ?_) | refine svz ⟨fun b hq => ?_⟩ | refine sv1 ?_ | refine svs ⟨?_⟩ | refine svu ⟨fun u => ?_⟩ | (refine svg (fun hg => ?_) (fun hg => ?_) <;> try (exfalso; first | omega | contradiction)) | (refine svc (fun hc => ?_) (fun hc => ?_) <;> try (exfalso; first | omega | contradiction)) | refine sv2 ?_ | refine svh (fun hb => ?_) (fun hb => ?_) | refine svb (fun b => ?_) | refine sva ?_ | refine sv3 ?_))
  refine R2.T (v := .val (.pointer (some ⟨b, 1, none⟩))) ?_ (hp := .l rfl (pur_index_arr (n := 4) (k := 1) (j := 1) rfl rfl rfl (by decide)).pur)
  (repeat' (first | (refine iS ?_; refine iMu ?_; refine S.mapU ?_) | refine svz ⟨fun b hq => ?_⟩ | refine sv1 ?_ | refine svs ⟨?_⟩ | refine svu ⟨fun u => ?_⟩ | (refine svg (fun hg => ?_) (fun hg => ?_) <;> try (exfalso; first | omega | contradiction)) | (refine svc (fun hc => ?_) (fun hc => ?_) <;> try (exfalso; first | omega | contradiction)) | refine sv2 ?_ | refine svh (fun hb => ?_) (fun hb => ?_) | refine svb (fun b => ?_) | refine sva ?_ | refine sv3 ?_))
  refine R2.T (v := .val (.pointer (some ⟨b, 2, none⟩))) ?_ (hp := .l rfl (pur_index_arr (n := 4) (k := 1) (j := 2) rfl rfl rfl (by decide)).pur)
  (repeat' (first | (refine iS ?_; refine iMu ?_; refine S.mapU ?_) | refine svz ⟨fun b hq => ?_⟩ | refine sv1 ?_ | refine svs ⟨?_⟩ | refine svu ⟨fun u => ?_⟩ | (refine svg (fun hg => ?_) (fun hg => ?_) <;> try (exfalso; first | omega | contradiction)) | (refine svc (fun hc => ?_) (fun hc => ?_) <;> try (exfalso; first | omega | contradiction)) | refine sv2 ?_ | refine svh (fun hb => ?_) (fun hb => ?_) | refine svb (fun b => ?_) | refine sva ?_ | refine sv3 ?_))
  refine R2.T (v := .val (.pointer (some ⟨b, 3, none⟩))) ?_ (hp := .l rfl (pur_index_arr (n := 4) (k := 1) (j := 3) rfl rfl rfl (by decide)).pur)
  (repeat' (first | (refine iS ?_; refine iMu ?_; refine S.mapU ?_) | refine svz ⟨fun b hq => ?_⟩ | refine sv1 ?_ | refine svs ⟨?_⟩ | refine svu ⟨fun u => ?_⟩ | (refine svg (fun hg => ?_) (fun hg => ?_) <;> try (exfalso; first | omega | contradiction)) | (refine svc (fun hc => ?_) (fun hc => ?_) <;> try (exfalso; first | omega | contradiction)) | refine sv2 ?_ | refine svh (fun hb => ?_) (fun hb => ?_) | refine svb (fun b => ?_) | refine sva ?_ | refine sv3 ?_))
  simp only [sw c, sw d]
  clear hc hd
  generalize sideF c = w at *
  generalize sideF d = h at *
  rename_i b'
  have e1 : IntKind.i64.wrap (a + w) = a + w := wrap_i64 (by omega) (by omega)
  have e2 : IntKind.i64.wrap (b' + h) = b' + h := wrap_i64 (by omega) (by omega)
  simp only [e1, e2]
  refine S.buildSlice (xs := [.tmp 35, .tmp 40, .tmp 47, .tmp 52]) (vs := [.agg [.val (.int .i64 (a)), .val (.int .i64 (b'))], .agg [.val (.int .i64 (a + w)), .val (.int .i64 (b'))], .agg [.val (.int .i64 (a + w)), .val (.int .i64 (b' + h))], .agg [.val (.int .i64 (a)), .val (.int .i64 (b' + h))]]) rfl rfl (by repeat (first | exact Evals.nil | (apply Evals.cons; rfl))) (by simp [AV.cells]) (by repeat (first | exact Ones.nil | refine Ones.cons rfl ?_ | refine Ones.own (by (fail_if_success (apply memG)); repeat (first | exact List.Mem.head _ | assumption | refine List.Mem.tail _ ?_)) ?_)) (by simp) rfl (fun u => ?_)
  (repeat' (first | (refine iS ?_; refine iMu ?_; refine S.mapU ?_) | refine svz ⟨fun b hq => ?_⟩ | refine sv1 ?_ | refine svs ⟨?_⟩ | refine svu ⟨fun u => ?_⟩ | (refine svg (fun hg => ?_) (fun hg => ?_) <;> try (exfalso; first | omega | contradiction)) | (refine svc (fun hc => ?_) (fun hc => ?_) <;> try (exfalso; first | omega | contradiction)) | refine sv2 ?_ | refine svh (fun hb => ?_) (fun hb => ?_) | refine svb (fun b => ?_)))
  refine W.mid (J := fun u : Value => ⟨113, [(9, .val u), (8, .val (.int .i64 (h))), (7, .val (.int .i64 (w))), (6, .val (.int .i64 (b'))), (5, .val (.int .i64 (a))), (1, .val (.bool t))], .own u 2 ((rectP a b' w h t).map PT.enc) 23 :: []⟩) (Φ := fun _ => True) ?_ ?_
  · (repeat' (first | (refine iS ?_; refine iMu ?_; refine S.mapU ?_) | refine svz ⟨fun b hq => ?_⟩ | refine sv1 ?_ | refine svs ⟨?_⟩ | refine svu ⟨fun u => ?_⟩ | (refine svg (fun hg => ?_) (fun hg => ?_) <;> try (exfalso; first | omega | contradiction)) | (refine svc (fun hc => ?_) (fun hc => ?_) <;> try (exfalso; first | omega | contradiction)) | refine sv2 ?_ | refine svh (fun hb => ?_) (fun hb => ?_) | refine svb (fun b => ?_) | refine sva ?_ | refine sv3 ?_))
    · refine R2.B ?_
      (repeat' (first | (refine iS ?_; refine iMu ?_; refine S.mapU ?_) | refine svz ⟨fun b hq => ?_⟩ | refine sv1 ?_ | refine svs ⟨?_⟩ | refine svu ⟨fun u => ?_⟩ | (refine svg (fun hg => ?_) (fun hg => ?_) <;> try (exfalso; first | omega | contradiction)) | (refine svc (fun hc => ?_) (fun hc => ?_) <;> try (exfalso; first | omega | contradiction)) | refine sv2 ?_ | refine svh (fun hb => ?_) (fun hb => ?_) | refine svb (fun b => ?_) | refine sva ?_ | refine sv3 ?_))
      subst hb
      exact ⟨u, trivial, ⟨rfl, (by repeat (first | exact LeT.nil | refine LeT.cons rfl ?_ | refine LeT.consw rfl (by (repeat (first | exact Wk.refl _ | exact Wk.nilr _ | exact Wk.nilm | apply Wk.aggc | apply Wk.tupc | exact Wk.aggn | exact Wk.tupn)); first | done | fail) ?_)), (by repeat (first | exact LeH.refl _ | exact LeH.nil _ | refine LeH.cons (by (fail_if_success (apply tkG)); (repeat (first | exact Tk.here | apply Tk.there)); first | done | fail) ?_ | refine LeH.boxw (by (fail_if_success (apply tkG)); (repeat (first | exact Tk.here | apply Tk.there)); first | done | fail) (by (repeat (first | exact Wk.refl _ | exact Wk.nilr _ | exact Wk.nilm | apply Wk.aggc | apply Wk.tupc | exact Wk.aggn | exact Wk.tupn)); first | done | fail) ?_ | refine LeH.skip ?_))⟩⟩
    · subst hb
      exact ⟨u, trivial, ⟨rfl, (by repeat (first | exact LeT.nil | refine LeT.cons rfl ?_ | refine LeT.consw rfl (by (repeat (first | exact Wk.refl _ | exact Wk.nilr _ | exact Wk.nilm | apply Wk.aggc | apply Wk.tupc | exact Wk.aggn | exact Wk.tupn)); first | done | fail) ?_)), (by repeat (first | exact LeH.refl _ | exact LeH.nil _ | refine LeH.cons (by (fail_if_success (apply tkG)); (repeat (first | exact Tk.here | apply Tk.there)); first | done | fail) ?_ | refine LeH.boxw (by (fail_if_success (apply tkG)); (repeat (first | exact Tk.here | apply Tk.there)); first | done | fail) (by (repeat (first | exact Wk.refl _ | exact Wk.nilr _ | exact Wk.nilm | apply Wk.aggc | apply Wk.tupc | exact Wk.aggn | exact Wk.tupn)); first | done | fail) ?_ | refine LeH.skip ?_))⟩⟩
  intro u _
  refine W.frz (v := u) (by (fail_if_success (apply tkG)); (repeat (first | exact Tk.here | apply Tk.there)); first | done | fail) (by repeat' (first | apply FrzT.cons | exact FrzT.rest _ | exact Frz.hit | apply Frz.aggc | apply Frz.tupc | exact Frz.aggn | exact Frz.tupn | exact Frz.keep _)) (by repeat' (first | apply FrzH.box | apply FrzH.keep | exact FrzH.rest _ | exact Frz.hit | apply Frz.aggc | apply Frz.tupc | exact Frz.aggn | exact Frz.tupn | exact Frz.keep _)) ?_
  have k0 := rect_check (x := a) (y := b') t 0 (.inl rfl) (by omega) (by omega) hw hh
  have k1 := rect_check (x := a) (y := b') t 1 (.inr rfl) (by omega) (by omega) hw hh
  have r0 := fun h1 => region_c 0 (rectP a b' w h t) h1 (fun _ => by omega)
  have r1 := fun h1 => region_c 1 (rectP a b' w h t) h1 (fun _ => by omega)
  rw [k0.1] at r0
  rw [k1.1] at r1
  have q0 := fun D (hD : PolyD 0 (rectP a b' w h t) D) => rect_reg hD (by omega) (by omega) hw hh
  have q1 := fun D (hD : PolyD 1 (rectP a b' w h t) D) => rect_reg hD (by omega) (by omega) hw hh
  have o1 : ∀ h1, _ := fun h1 => of_c [(⟨a, b', w, h⟩ : RC)] h1 (by simp) (fun r hr => by
    have : r = ⟨a, b', w, h⟩ := by simpa using hr
    subst this
    constructor <;> (unfold I64; dsimp only; omega))
  rw [show [(⟨a, b', w, h⟩ : RC)].map RC.enc = [.agg [.val (.int .i64 (a)), .val (.int .i64 (b')), .val (.int .i64 (w)), .val (.int .i64 (h))]] from rfl] at o1
  have w1 := fun h1 => twice_c (rectP a b' w h t) h1
  rw [twiceX_eq (fun p hp => by have := k0.2.2 p hp; unfold PT.near nearI; omega) (by omega)] at w1
  have hw2 := rect_twice (x := a) (y := b') t hw hh
  have sm := fun h1 => same_c (ofF [(⟨a, b', w, h⟩ : RC)]) (ofF [(⟨a, b', w, h⟩ : RC)]) h1
  rw [decide_eq_true rfl] at sm
  have mb : 2 * w * h ≤ 32000000 ∧ 0 ≤ 2 * w * h := by
    have m1 := Int.mul_le_mul (show 2 * w ≤ 8000 by omega) (show h ≤ 4000 by omega) (by omega) (by omega)
    have m2 := Int.mul_nonneg (show 0 ≤ 2 * w by omega) (show 0 ≤ h by omega)
    omega
  clear k0 k1 e1 e2
  generalize twiceF (rectP a b' w h t) = tw at *
  generalize rectP a b' w h t = P at *
  generalize ofF [(⟨a, b', w, h⟩ : RC)] = R0 at *
  unfold regE at *
  (repeat' (first | (refine iS ?_; refine iN ?_; first | refine S.build1r ?_ | refine S.build2r ?_ | refine S.build3r ?_) | (refine iR2 ?_; refine r2b ?_; refine R2.one ?_) | (refine iS ?_; refine iMu ?_; refine S.mapU ?_) | refine svz ⟨fun b hq => ?_⟩ | refine sv1 ?_ | refine svs ⟨?_⟩ | refine svu ⟨fun u => ?_⟩ | (refine svg (fun hg => ?_) (fun hg => ?_) <;> try (exfalso; first | omega | contradiction)) | (refine svc (fun hc => ?_) (fun hc => ?_) <;> try (exfalso; first | omega | contradiction)) | refine sv2 ?_ | refine svh (fun hb => ?_) (fun hb => ?_) | refine svb (fun b => ?_) | refine sva ?_ | refine sv3 ?_))
  refine S.call ?_; refine (o1 _).mono ?_; rintro r h' ⟨rfl, hh⟩; subst hh
  (repeat' (first | (refine iS ?_; refine iN ?_; first | refine S.build1r ?_ | refine S.build2r ?_ | refine S.build3r ?_) | (refine iR2 ?_; refine r2b ?_; refine R2.one ?_) | (refine iS ?_; refine iMu ?_; refine S.mapU ?_) | refine svz ⟨fun b hq => ?_⟩ | refine sv1 ?_ | refine svs ⟨?_⟩ | refine svu ⟨fun u => ?_⟩ | (refine svg (fun hg => ?_) (fun hg => ?_) <;> try (exfalso; first | omega | contradiction)) | (refine svc (fun hc => ?_) (fun hc => ?_) <;> try (exfalso; first | omega | contradiction)) | refine sv2 ?_ | refine svh (fun hb => ?_) (fun hb => ?_) | refine svb (fun b => ?_) | refine sva ?_ | refine sv3 ?_))
  refine S.call ?_
  refine (r0 _).mono ?_
  rintro v h' ⟨D, hD, _, rfl, hh⟩; subst hh
  rw [q0 D (hD rfl)]
  clear hD r0 q0
  (repeat' (first | (refine iS ?_; refine iN ?_; first | refine S.build1r ?_ | refine S.build2r ?_ | refine S.build3r ?_) | (refine iR2 ?_; refine r2b ?_; refine R2.one ?_) | (refine iS ?_; refine iMu ?_; refine S.mapU ?_) | refine svz ⟨fun b hq => ?_⟩ | refine sv1 ?_ | refine svs ⟨?_⟩ | refine svu ⟨fun u => ?_⟩ | (refine svg (fun hg => ?_) (fun hg => ?_) <;> try (exfalso; first | omega | contradiction)) | (refine svc (fun hc => ?_) (fun hc => ?_) <;> try (exfalso; first | omega | contradiction)) | refine sv2 ?_ | refine svh (fun hb => ?_) (fun hb => ?_) | refine svb (fun b => ?_) | refine sva ?_ | refine sv3 ?_))
  refine S.call ?_
  refine (r1 _).mono ?_
  rintro v h' ⟨D, hD, _, rfl, hh⟩; subst hh
  rw [q1 D (hD rfl)]
  clear hD r1 q1
  (repeat' (first | (refine iS ?_; refine iN ?_; first | refine S.build1r ?_ | refine S.build2r ?_ | refine S.build3r ?_) | (refine iR2 ?_; refine r2b ?_; refine R2.one ?_) | (refine iS ?_; refine iMu ?_; refine S.mapU ?_) | refine svz ⟨fun b hq => ?_⟩ | refine sv1 ?_ | refine svs ⟨?_⟩ | refine svu ⟨fun u => ?_⟩ | (refine svg (fun hg => ?_) (fun hg => ?_) <;> try (exfalso; first | omega | contradiction)) | (refine svc (fun hc => ?_) (fun hc => ?_) <;> try (exfalso; first | omega | contradiction)) | refine sv2 ?_ | refine svh (fun hb => ?_) (fun hb => ?_) | refine svb (fun b => ?_) | refine sva ?_ | refine sv3 ?_))
  refine S.call ?_; refine (sm _).mono ?_; rintro r h' ⟨rfl, hh⟩; subst hh
  (repeat' (first | (refine iS ?_; refine iN ?_; first | refine S.build1r ?_ | refine S.build2r ?_ | refine S.build3r ?_) | (refine iR2 ?_; refine r2b ?_; refine R2.one ?_) | (refine iS ?_; refine iMu ?_; refine S.mapU ?_) | refine svz ⟨fun b hq => ?_⟩ | refine sv1 ?_ | refine svs ⟨?_⟩ | refine svu ⟨fun u => ?_⟩ | (refine svg (fun hg => ?_) (fun hg => ?_) <;> try (exfalso; first | omega | contradiction)) | (refine svc (fun hc => ?_) (fun hc => ?_) <;> try (exfalso; first | omega | contradiction)) | refine sv2 ?_ | refine svh (fun hb => ?_) (fun hb => ?_) | refine svb (fun b => ?_) | refine sva ?_ | refine sv3 ?_))
  refine S.call ?_; refine (sm _).mono ?_; rintro r h' ⟨rfl, hh⟩; subst hh
  (repeat' (first | (refine iS ?_; refine iN ?_; first | refine S.build1r ?_ | refine S.build2r ?_ | refine S.build3r ?_) | (refine iR2 ?_; refine r2b ?_; refine R2.one ?_) | (refine iS ?_; refine iMu ?_; refine S.mapU ?_) | refine svz ⟨fun b hq => ?_⟩ | refine sv1 ?_ | refine svs ⟨?_⟩ | refine svu ⟨fun u => ?_⟩ | (refine svg (fun hg => ?_) (fun hg => ?_) <;> try (exfalso; first | omega | contradiction)) | (refine svc (fun hc => ?_) (fun hc => ?_) <;> try (exfalso; first | omega | contradiction)) | refine sv2 ?_ | refine svh (fun hb => ?_) (fun hb => ?_) | refine svb (fun b => ?_) | refine sva ?_ | refine sv3 ?_))
  refine S.call ?_; refine (w1 _).mono ?_; rintro r h' ⟨rfl, hh⟩; subst hh
  (repeat' (first | (refine iS ?_; refine iN ?_; first | refine S.build1r ?_ | refine S.build2r ?_ | refine S.build3r ?_) | (refine iR2 ?_; refine r2b ?_; refine R2.one ?_) | (refine iS ?_; refine iMu ?_; refine S.mapU ?_) | refine svz ⟨fun b hq => ?_⟩ | refine sv1 ?_ | refine svs ⟨?_⟩ | refine svu ⟨fun u => ?_⟩ | (refine svg (fun hg => ?_) (fun hg => ?_) <;> try (exfalso; first | omega | contradiction)) | (refine svc (fun hc => ?_) (fun hc => ?_) <;> try (exfalso; first | omega | contradiction)) | refine sv2 ?_ | refine svh (fun hb => ?_) (fun hb => ?_) | refine svb (fun b => ?_) | refine sva ?_ | refine sv3 ?_))
  refine S.call ?_; refine (awake_c _).mono ?_; rintro r h' ⟨rfl, hh⟩; subst hh
  (repeat' (first | (refine iS ?_; refine iN ?_; first | refine S.build1r ?_ | refine S.build2r ?_ | refine S.build3r ?_) | (refine iR2 ?_; refine r2b ?_; refine R2.one ?_) | (refine iS ?_; refine iMu ?_; refine S.mapU ?_) | refine svz ⟨fun b hq => ?_⟩ | refine sv1 ?_ | refine svs ⟨?_⟩ | refine svu ⟨fun u => ?_⟩ | (refine svg (fun hg => ?_) (fun hg => ?_) <;> try (exfalso; first | omega | contradiction)) | (refine svc (fun hc => ?_) (fun hc => ?_) <;> try (exfalso; first | omega | contradiction)) | refine sv2 ?_ | refine svh (fun hb => ?_) (fun hb => ?_) | refine svb (fun b => ?_) | refine sva ?_ | refine sv3 ?_))
  exact fin_r (h' := _) rfl
theorem rects_row : ∀ l, FitAll maxLen [.fld 1 (.int .i16) (.fld 1 (.int .i16) (.fld 1 (.int .i16) (.fld 1 (.int .i16) (.nil)))), .bool] l → ACalls Try.prog 10 l [] (fun r h' => r = .val (.bool true)) := by
  rintro l ⟨x, _, rfl, hx, y, _, rfl, hy, rfl⟩
  obtain ⟨_, rfl, _, _, rfl, _, ⟨a, rfl, ha⟩, _, _, rfl, _, ⟨b, rfl, hb⟩, _, _, rfl, _, ⟨c, rfl, hc⟩, _, _, rfl, _, ⟨d, rfl, hd⟩, rfl⟩ := hx
  obtain ⟨t, rfl⟩ := fit_bool hy
  exact rects_c t a b c d (wf_i16 ha) (wf_i16 hb) (wf_i16 hc) (wf_i16 hd)
end Go.Proofs.Ytkeclfcjmdhcfaa
