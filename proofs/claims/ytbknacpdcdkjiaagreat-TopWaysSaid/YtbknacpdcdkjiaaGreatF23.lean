import Derived.Test.YtbknacpdcdkjiaaGreatF45
import Derived.Test.YtbknacpdcdkjiaaGreatF42
/- A motion. No condition. -/
namespace Go.Proofs.YtbknacpdcdkjiaaGreat
open Go Go.VM
attribute [local irreducible] PurV Pur Step RL W D ACalls Then InBlock Fini
set_option linter.unusedVariables false
set_option linter.unusedSimpArgs false
set_option maxHeartbeats 20000000
theorem findF_bd {M : CM} {N : CS} {m : Int} {L : List Int} (h : ∀ x ∈ L, 1 ≤ x ∧ x ≤ 4294967295) : (0 ≤ (findF M N m L).1 ∧ (findF M N m L).1 ≤ 4294967295) ∧ (findF M N m L).2.length ≤ 8 := by
  rcases find_spec M N m L with e | ⟨w, h1, e, _⟩ <;> rw [e]
  · exact ⟨by decide, by decide⟩
  · have := h w h1
    exact ⟨by dsimp only; omega, whoF_len _ _ _⟩
theorem names_bd {s : RT} (ok : s.Ok) (hi : IdOk s.up) (p : Bool) (m : Int) (hw : 0 ≤ (s.dv p).a.w ∧ (s.dv p).a.w ≤ 4294967295) : (0 ≤ (namesF s p m).1 ∧ (namesF s p m).1 ≤ 4294967295) ∧ (namesF s p m).2.length ≤ 8 := by
  unfold namesF
  split
  · refine findF_bd fun x hx => hi x ?_
    cases p with
    | true => exact pathA_has ok.tw hx
    | false => exact wayF_has ok.tw hx
  · split
    · exact ⟨hw, by simp⟩
    · exact ⟨by decide, by decide⟩
def motF (s : RT) (i : IN) (st ch sx sy : Int) : List SD := (namesF s true 16).2.map fun c => ⟨c, i.k, [(namesF s true 16).1, ch, i.c, st, sx, sy, s.x, s.y, i.t]⟩
set_option maxRecDepth 100000 in
theorem motion_t (s : RT) (i : IN) (Wo : List Int) (L : List SD) (wd hg : Int) (ok : s.Ok) (hi : IdOk s.up) (vin : VIn wd hg s.up s.o s.V) (hu : hasT s.up s.un = true) (hk : i.k = 5) (how : s.p.a.ow = false) (hw : 0 ≤ s.p.a.w ∧ s.p.a.w ≤ 4294967295) (hnw : 0 ≤ s.nw ∧ s.nw ≤ 4294967295) (ht : 0 ≤ i.t ∧ i.t ≤ 4294967295) (hl : L.length ≤ 100000) (hix : I64 i.x) (hiy : I64 i.y) :
    TakC 79 s i Wo L (fun s' l => ∃ x y n ch sx sy, ((0 ≤ x ∧ x < wd) ∧ 0 ≤ y ∧ y < hg) ∧ atF s.o s.V x y = some n ∧ hasT s.up n = true ∧ s' = (s.xy x y).ud n ∧ l = crsF (s.xy x y) n ++ motF ((s.xy x y).ud n) i (stF s) ch sx sy) := by
  intro b0 v H
  have kc := fun h => kind_c i.k h (by omega)
  rw [show kdF i.k = ⟨true, 16, false, false, 79⟩ by rw [hk]; rfl] at kc
  have stc := fun h => state_c s h
  have br := fun h => bring_c b0 (.val v) s i.x i.y wd hg h vin hix hiy
  have cr := fun x y n hn ha H => crossings_c b0 v (s.xy x y) n L H ⟨ok.tw, ok.ul, ok.vo, ok.ol⟩ hi hnw hu hn ha (by omega)
  have cl : ∀ x y n, (crsF (s.xy x y) n).length ≤ 24000 := fun x y n => by
    have h1 := crs_len (s.xy x y) (crossF (s.xy x y).up (s.xy x y).un n)
    have h2 := crossF_len ok.tw ok.ul s.un n
    exact Nat.le_trans h1 (by show 8 * (crossF s.up s.un n).length ≤ 24000; omega)
  have nb := fun x y n => names_bd (s := (s.xy x y).ud n) ⟨ok.tw, ok.ul, ok.vo, ok.ol⟩ hi true 16 hw
  have nc := fun x y n v1 H hm => names_c b0 (.val v1) ((s.xy x y).ud n) ⟨true, 16, false, false, 79⟩ H hm ⟨ok.tw, ok.ul, ok.vo, ok.ol⟩ how
  have ec := fun x y n v1 L1 H' hl => event_c b0 v1 ((s.xy x y).ud n) i (namesF ((s.xy x y).ud n) true 16).1 (namesF ((s.xy x y).ud n) true 16).2 (stF s) L1 H' ⟨ok.tw, ok.ul, ok.vo, ok.ol⟩ hl (nb x y n).1 ht
  have vat := vin.at'
  clear vin hu how hw hnw ht hix hiy ok hi
  dsimp only at nc
  unfold runH
  unfold RT.enc at stc
  unfold KD.enc at kc nc
  generalize hst : stF s = st at *
  rw [IN.enc_eq i] at *
  have e0 : runC s (.val v) = mapV .u32 vIds s.k :: mapV .u32 (vI .u32) s.up :: AV.ro 1 (ints .u32 (s.o)) :: mapV .u32 vSW s.V :: mapK (vI .i64) s.M :: mapV .u32 (vI .i64) s.N :: AV.val (.int .u32 (s.fw)) :: AV.val (.int .i64 (s.fr)) :: AV.val (.int .u32 (s.ft)) :: AV.ro 9 [] :: AV.val (.int .i64 ((s.p).a.cl)) :: AV.val (.int .u32 ((s.p).a.w)) :: AV.val (.bool ((s.p).a.ow)) :: AV.val (.int .i64 ((s.p).a.mask)) :: AV.val (.bool ((s.p).a.au)) :: AV.val (.bool ((s.p).a.pa)) :: AV.val (.int .i64 ((s.p).a.code)) :: AV.val (.int .u32 ((s.p).a.time)) :: AV.val (.bool ((s.p).g)) :: AV.val (.bool ((s.p).f)) :: AV.val (.bool ((s.p).s)) :: AV.val (.int .i64 ((s.p).held.k)) :: AV.val (.int .i64 ((s.p).held.c)) :: AV.val (.int .i64 ((s.p).held.x)) :: AV.val (.int .i64 ((s.p).held.y)) :: AV.val (.int .u32 ((s.p).held.t)) :: AV.val (.int .i64 ((s.p).held.n)) :: AV.val (.bool ((s.p).hs)) :: AV.ro 6 ((s.p).ws.map IN.enc) :: AV.val (.int .i64 ((s.q).a.cl)) :: AV.val (.int .u32 ((s.q).a.w)) :: AV.val (.bool ((s.q).a.ow)) :: AV.val (.int .i64 ((s.q).a.mask)) :: AV.val (.bool ((s.q).a.au)) :: AV.val (.bool ((s.q).a.pa)) :: AV.val (.int .i64 ((s.q).a.code)) :: AV.val (.int .u32 ((s.q).a.time)) :: AV.val (.bool ((s.q).g)) :: AV.val (.bool ((s.q).f)) :: AV.val (.bool ((s.q).s)) :: AV.val (.int .i64 ((s.q).held.k)) :: AV.val (.int .i64 ((s.q).held.c)) :: AV.val (.int .i64 ((s.q).held.x)) :: AV.val (.int .i64 ((s.q).held.y)) :: AV.val (.int .u32 ((s.q).held.t)) :: AV.val (.int .i64 ((s.q).held.n)) :: AV.val (.bool ((s.q).hs)) :: AV.ro 6 ((s.q).ws.map IN.enc) :: AV.val (.int .i64 (s.x)) :: AV.val (.int .i64 (s.y)) :: AV.val (.int .i64 (s.bt)) :: AV.val (.int .i64 (s.md)) :: AV.val (.int .i64 (s.ct)) :: AV.val (.int .u32 (s.nw)) :: AV.val (.int .u32 (s.un)) :: .val v :: [] := rfl
  rw [e0]
  refine ACalls.intro Tryz.func79 rfl Tryz.ntmps79 Tryz.results79 (Nat.le_of_ble_eq_true rfl) ?_
  (repeat' (first|refine svz ⟨fun b hq=>?_⟩|refine svA ⟨?_⟩|refine svu ⟨fun u=>?_⟩|(refine svG (fun hg9=>?_) (fun hg9=>?_)<;>try exact svx)|refine svh (fun hb=>?_) (fun hb=>?_)|refine svb (fun b=>?_)|fail))
  refine S.call ?_; refine (stc _).mono ?_; rintro r h' ⟨rfl, hh⟩; subst hh
  (repeat' (first|refine svz ⟨fun b hq=>?_⟩|refine svA ⟨?_⟩|refine svu ⟨fun u=>?_⟩|(refine svG (fun hg9=>?_) (fun hg9=>?_)<;>try exact svx)|refine svh (fun hb=>?_) (fun hb=>?_)|refine svb (fun b=>?_)|fail))
  revert b; intro b4
  refine Step.le (s' := ⟨35, [(14, .val (.pointer (some ⟨b0, 0, none⟩))), (16, AV.val (.int .i64 (i.x))), (18, AV.val (.int .i64 (i.y))), (6, AV.val (.int .i64 (st))), (4, .val (.pointer (some ⟨b4, 0, none⟩))), (0, .val (.pointer (some ⟨b0, 0, none⟩)))], .box b0 (runC s (.val v)) 135 :: .own v 7 (L.map SD.enc) 66 :: .box b4 [AV.val (.int .i64 ((i).k)), AV.val (.int .i64 ((i).c)), AV.val (.int .i64 ((i).x)), AV.val (.int .i64 ((i).y)), AV.val (.int .u32 ((i).t)), AV.val (.int .i64 ((i).n))] 47 :: H⟩) lee ?_
  refine S.call ?_
  refine (br _).mono ?_
  rintro r h' ⟨x, y, hxy, rfl, hh⟩
  subst hh
  obtain ⟨n, hat, hn⟩ := vat x y hxy
  have cr1 := fun H => cr x y n hn hat H
  have cl1 := cl x y n
  have nb1 := (nb x y n).2
  have nc1 := nc x y n
  have ec1 := ec x y n
  clear br cr cl nb nc ec vat e0 stc
  (repeat' (first|refine svz ⟨fun b hq=>?_⟩|refine svA ⟨?_⟩|refine svu ⟨fun u=>?_⟩|(refine svG (fun hg9=>?_) (fun hg9=>?_)<;>try exact svx)|refine svh (fun hb=>?_) (fun hb=>?_)|refine svb (fun b=>?_)|fail))
  refine S.call ?_
  refine (cr1 _).mono ?_
  rintro r h' ⟨v1, rfl, hh⟩
  subst hh
  (repeat' (first|refine svz ⟨fun b hq=>?_⟩|refine svA ⟨?_⟩|refine svu ⟨fun u=>?_⟩|(refine svG (fun hg9=>?_) (fun hg9=>?_)<;>try exact svx)|refine svh (fun hb=>?_) (fun hb=>?_)|refine svb (fun b=>?_)|fail))
  refine S.call ?_; refine (kc _).mono ?_; rintro r h' ⟨rfl, hh⟩; subst hh
  (repeat' (first|refine svz ⟨fun b hq=>?_⟩|refine svA ⟨?_⟩|refine svu ⟨fun u=>?_⟩|(refine svG (fun hg9=>?_) (fun hg9=>?_)<;>try exact svx)|refine svh (fun hb=>?_) (fun hb=>?_)|refine svb (fun b=>?_)|fail))
  refine R2.C (nc1 v1 _ (by (fail_if_success (apply memG)); repeat (first | exact List.Mem.head _ | assumption | refine List.Mem.tail _ ?_))) ?_
  (repeat' (first|refine svz ⟨fun b hq=>?_⟩|refine svA ⟨?_⟩|refine svu ⟨fun u=>?_⟩|(refine svG (fun hg9=>?_) (fun hg9=>?_)<;>try exact svx)|refine svh (fun hb=>?_) (fun hb=>?_)|refine svb (fun b=>?_)|fail))
  revert b; intro b7
  refine R2.melt ?_
  refine R2.B ?_
  refine Step.le (s' := ⟨35, [(28, .val (.pointer (some ⟨b0, 0, none⟩))), (29, .agg [AV.val (.int .i64 ((i).k)), AV.val (.int .i64 ((i).c)), AV.val (.int .i64 ((i).x)), AV.val (.int .i64 ((i).y)), AV.val (.int .u32 ((i).t)), AV.val (.int .i64 ((i).n))]), (32, .agg [AV.val (.int .u32 ((namesF ((s.xy x y).ud n) true 16).1)), .ro 1 (ints .i64 (namesF ((s.xy x y).ud n) true 16).2)]), (33, AV.val (.int .i64 (st)))], .box b0 (runC ((s.xy x y).ud n) (.val v1)) 135 :: .own v1 7 ((L ++ crsF (s.xy x y) n).map SD.enc) 66 :: .box b7 (AV.agg [AV.val (.bool (true)), AV.val (.int .i64 (16)), AV.val (.bool (false)), AV.val (.bool (false)), .val (.func (.func 79) #[] #[])]).cells 130 :: .box b4 [AV.val (.int .i64 ((i).k)), AV.val (.int .i64 ((i).c)), AV.val (.int .i64 ((i).x)), AV.val (.int .i64 ((i).y)), AV.val (.int .u32 ((i).t)), AV.val (.int .i64 ((i).n))] 47 :: H⟩) lee ?_
  refine S.call ?_
  refine (ec1 v1 (L ++ crsF (s.xy x y) n) _ (by rw [List.length_append]; omega)).mono ?_
  rintro r h' ⟨v2, ch, sx, sy, rfl, hh⟩
  subst hh
  refine kd ?_
  (repeat' (first|refine svz ⟨fun b hq=>?_⟩|refine svA ⟨?_⟩|refine svu ⟨fun u=>?_⟩|(refine svG (fun hg9=>?_) (fun hg9=>?_)<;>try exact svx)|refine svh (fun hb=>?_) (fun hb=>?_)|refine svb (fun b=>?_)|fail))
  refine fin_n (vs := []) (h' := runH b0 v2 ((s.xy x y).ud n) (L ++ (crsF (s.xy x y) n ++ motF ((s.xy x y).ud n) i st ch sx sy)) H) ⟨v2, _, _, ⟨x, y, n, ch, sx, sy, hxy, hat, hn, rfl, rfl⟩, rfl, rfl⟩ (h2 := ?_)
  unfold runH motF
  rw [← List.append_assoc]
  (repeat (first | exact LeH.refl _ | exact LeH.nil _ | refine LeH.cons (by (fail_if_success (apply tkG)); (repeat (first | exact Tk.here | apply Tk.there)); first | done | fail) ?_ | refine LeH.boxw (by (fail_if_success (apply tkG)); (repeat (first | exact Tk.here | apply Tk.there)); first | done | fail) (by (repeat (first | exact Wk.refl _ | exact Wk.nilr _ | exact Wk.nilm | apply Wk.aggc | apply Wk.tupc | exact Wk.aggn | exact Wk.tupn)); first | done | fail) ?_ | refine LeH.skip ?_))
end Go.Proofs.YtbknacpdcdkjiaaGreat

/- A press of a button. No condition. -/
namespace Go.Proofs.YtbknacpdcdkjiaaGreat
open Go Go.VM
attribute [local irreducible] PurV Pur Step RL W D ACalls Then InBlock Fini
set_option linter.unusedVariables false
set_option linter.unusedSimpArgs false
set_option maxHeartbeats 20000000
end Go.Proofs.YtbknacpdcdkjiaaGreat
