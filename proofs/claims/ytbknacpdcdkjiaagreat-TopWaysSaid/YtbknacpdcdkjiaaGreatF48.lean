import Derived.Test.YtbknacpdcdkjiaaGreatF23
import Derived.Test.YtbknacpdcdkjiaaGreatF25
/- What follows from a change of the view, where there is neither focus nor grab. No condition. -/
namespace Go.Proofs.YtbknacpdcdkjiaaGreat
open Go Go.VM
set_option maxRecDepth 100000
attribute [local irreducible] PurV Pur Step RL W D ACalls Then InBlock Fini
set_option linter.unusedVariables false
set_option linter.unusedSimpArgs false
set_option maxHeartbeats 20000000
theorem flost_c (k : SVT) (up : UP) (o : List Int) (V : List (Int × SW)) (fw fr ft : Int) (h : Heap) (hf : fw = 0) : ACalls Tryz.prog 44 [encF fw fr ft, encT k up, encW o V] h (fun r h' => r = .tup [encF fw fr ft, AV.val (.bool (false))] ∧ h' = h) := by
  subst hf
  unfold encF encT encW
  refine ACalls.intro Tryz.func44 rfl Tryz.ntmps44 Tryz.results44 (Nat.le_of_ble_eq_true rfl) ?_
  (repeat' (first|refine svz ⟨fun b hq=>?_⟩|refine svA ⟨?_⟩|refine svu ⟨fun u=>?_⟩|(refine svG (fun hg=>?_) (fun hg=>?_)<;>try exact svx)|refine svh (fun hb=>?_) (fun hb=>?_)|refine svb (fun b=>?_)|fail))
  exact fin_r (h' := _) ⟨rfl, rfl⟩
instance tf_moved1 : TFun Tryz.prog 46 := ⟨by kernel_rfl⟩
theorem moved_c0 (s : RT) (n : Int) (h : Heap) (ok : s.Ok) (hi : IdOk s.up) (hf : s.fw = 0) (hpg : s.p.g = false) (hqg : s.q.g = false) (hpw : s.p.ws = []) (hqw : s.q.ws = []) (hnw : 0 ≤ s.nw ∧ s.nw ≤ 4294967295) (hu : hasT s.up s.un = true) (hn : hasT s.up n = true) (ha : atF s.o s.V s.x s.y = some n) :
    ACalls Tryz.prog 16 [s.enc] h (fun r h' => ∃ v, r = .tup [(s.ud n).enc, .val v] ∧ h' = .own v 7 ((crsF s n).map SD.enc) 66 :: h) := by
  have fl := fun h => flost_c s.k s.up s.o s.V s.fw s.fr s.ft h hf
  have cr := fun b0 v H => crossings_c b0 v s n [] H ok hi hnw hu hn ha (by simp)
  have e1 := fun b0 v H => endif_c b0 v s true false H (Fv.clo 46 [.val (.pointer (some ⟨b0, 0, none⟩))]) (fun q => absurd (show s.p.g = true from q) (by rw [hpg]; decide))
  have e2 := fun b0 v H => endif_c b0 v s false false H (Fv.clo 46 [.val (.pointer (some ⟨b0, 0, none⟩))]) (fun q => absurd (show s.q.g = true from q) (by rw [hqg]; decide))
  simp only [Bool.and_false, Bool.false_eq_true, ↓reduceIte] at e1 e2
  have al := fun b0 v H => all_c (fun s' L' => s' = s.ud n ∧ L' = crsF s n) (fun s' L' q => by
    obtain ⟨rfl, rfl⟩ := q
    exact ⟨by show s.p.ws.length ≤ _; rw [hpw]; decide, by show s.q.ws.length ≤ _; rw [hqw]; decide⟩) (fun s' L' p d i q hp => by
    exfalso
    obtain ⟨rfl, rfl⟩ := q
    rw [pick_nil (s := s.ud n) hpw hqw] at hp; cases hp) b0 v (s.ud n) (crsF s n) H ⟨rfl, rfl⟩
  have dn := fun b0 v H => done_c b0 v (s.ud n) (crsF s n) H
  rw [List.nil_append] at cr
  clear ok hi hpg hqg hpw hqw hnw hu hn ha
  have e0 : s.enc = .agg (mapV .u32 vIds s.k :: mapV .u32 (vI .u32) s.up :: AV.ro 1 (ints .u32 (s.o)) :: mapV .u32 vSW s.V :: mapK (vI .i64) s.M :: mapV .u32 (vI .i64) s.N :: AV.val (.int .u32 (s.fw)) :: AV.val (.int .i64 (s.fr)) :: AV.val (.int .u32 (s.ft)) :: AV.ro 9 [] :: AV.val (.int .i64 ((s.p).a.cl)) :: AV.val (.int .u32 ((s.p).a.w)) :: AV.val (.bool ((s.p).a.ow)) :: AV.val (.int .i64 ((s.p).a.mask)) :: AV.val (.bool ((s.p).a.au)) :: AV.val (.bool ((s.p).a.pa)) :: AV.val (.int .i64 ((s.p).a.code)) :: AV.val (.int .u32 ((s.p).a.time)) :: AV.val (.bool ((s.p).g)) :: AV.val (.bool ((s.p).f)) :: AV.val (.bool ((s.p).s)) :: AV.val (.int .i64 ((s.p).held.k)) :: AV.val (.int .i64 ((s.p).held.c)) :: AV.val (.int .i64 ((s.p).held.x)) :: AV.val (.int .i64 ((s.p).held.y)) :: AV.val (.int .u32 ((s.p).held.t)) :: AV.val (.int .i64 ((s.p).held.n)) :: AV.val (.bool ((s.p).hs)) :: AV.ro 6 ((s.p).ws.map IN.enc) :: AV.val (.int .i64 ((s.q).a.cl)) :: AV.val (.int .u32 ((s.q).a.w)) :: AV.val (.bool ((s.q).a.ow)) :: AV.val (.int .i64 ((s.q).a.mask)) :: AV.val (.bool ((s.q).a.au)) :: AV.val (.bool ((s.q).a.pa)) :: AV.val (.int .i64 ((s.q).a.code)) :: AV.val (.int .u32 ((s.q).a.time)) :: AV.val (.bool ((s.q).g)) :: AV.val (.bool ((s.q).f)) :: AV.val (.bool ((s.q).s)) :: AV.val (.int .i64 ((s.q).held.k)) :: AV.val (.int .i64 ((s.q).held.c)) :: AV.val (.int .i64 ((s.q).held.x)) :: AV.val (.int .i64 ((s.q).held.y)) :: AV.val (.int .u32 ((s.q).held.t)) :: AV.val (.int .i64 ((s.q).held.n)) :: AV.val (.bool ((s.q).hs)) :: AV.ro 6 ((s.q).ws.map IN.enc) :: AV.val (.int .i64 (s.x)) :: AV.val (.int .i64 (s.y)) :: AV.val (.int .i64 (s.bt)) :: AV.val (.int .i64 (s.md)) :: AV.val (.int .i64 (s.ct)) :: AV.val (.int .u32 (s.nw)) :: AV.val (.int .u32 (s.un)) :: []) := rfl
  rw [e0]
  clear e0 hf
  unfold encF encT encW at fl
  refine ACalls.intro Tryz.func16 rfl Tryz.ntmps16 Tryz.results16 (Nat.le_of_ble_eq_true rfl) ?_
  refine W.nil_ 7 66 ?_
  (repeat' (first|refine svz ⟨fun b hq=>?_⟩|refine svA ⟨?_⟩|refine svu ⟨fun u=>?_⟩|(refine svG (fun hg=>?_) (fun hg=>?_)<;>try exact svx)|refine svh (fun hb=>?_) (fun hb=>?_)|refine svb (fun b=>?_)|fail))
  rename_i b1 b2
  revert b; intro b4
  refine S.call ?_; refine (fl _).mono ?_; rintro r h' ⟨rfl, hh⟩; subst hh
  (repeat' (first|refine svz ⟨fun b hq=>?_⟩|refine svA ⟨?_⟩|refine svu ⟨fun u=>?_⟩|(refine svG (fun hg=>?_) (fun hg=>?_)<;>try exact svx)|refine svh (fun hb=>?_) (fun hb=>?_)|refine svb (fun b=>?_)|fail))
  refine Step.le (s' := ⟨36, [(27, .clo (.func 46) [.val (.pointer (some ⟨b4, 0, none⟩))]), (7, .clo (.func 46) [.val (.pointer (some ⟨b4, 0, none⟩))]), (4, .val (.pointer (some ⟨b4, 0, none⟩))), (2, .val (.pointer (some ⟨b2, 0, none⟩)))], .box b4 (runC s (.val (.slice none 0 0))) 135 :: .own (.slice none 0 0) 7 (([] : List SD).map SD.enc) 66 :: .box b2 _ 52 :: h⟩) lee ?_
  refine S.call ?_; refine (e1 _ _ _).mono ?_; rintro r h' ⟨rfl, hh⟩; subst hh
  (repeat' (first|refine svz ⟨fun b hq=>?_⟩|refine svA ⟨?_⟩|refine svu ⟨fun u=>?_⟩|(refine svG (fun hg=>?_) (fun hg=>?_)<;>try exact svx)|refine svh (fun hb=>?_) (fun hb=>?_)|refine svb (fun b=>?_)|fail))
  refine S.call ?_; refine (e2 _ _ _).mono ?_; rintro r h' ⟨rfl, hh⟩; subst hh
  (repeat' (first|refine svz ⟨fun b hq=>?_⟩|refine svA ⟨?_⟩|refine svu ⟨fun u=>?_⟩|(refine svG (fun hg=>?_) (fun hg=>?_)<;>try exact svx)|refine svh (fun hb=>?_) (fun hb=>?_)|refine svb (fun b=>?_)|fail))
  refine S.call ?_
  refine (cr _ _ _).mono ?_
  rintro r h' ⟨v1, rfl, hh⟩
  subst hh
  (repeat' (first|refine svz ⟨fun b hq=>?_⟩|refine svA ⟨?_⟩|refine svu ⟨fun u=>?_⟩|(refine svG (fun hg=>?_) (fun hg=>?_)<;>try exact svx)|refine svh (fun hb=>?_) (fun hb=>?_)|refine svb (fun b=>?_)|fail))
  refine S.call ?_
  refine (al _ _ _).mono ?_
  rintro r h' ⟨v2, s2, L2, ⟨rfl, rfl⟩, _, rfl, hh⟩
  subst hh
  (repeat' (first|refine svz ⟨fun b hq=>?_⟩|refine svA ⟨?_⟩|refine svu ⟨fun u=>?_⟩|(refine svG (fun hg=>?_) (fun hg=>?_)<;>try exact svx)|refine svh (fun hb=>?_) (fun hb=>?_)|refine svb (fun b=>?_)|fail))
  refine S.call ?_; refine (dn _ _ _).mono ?_; rintro r h' ⟨rfl, hh⟩; subst hh
  unfold RT.enc
  (repeat' (first|refine svz ⟨fun b hq=>?_⟩|refine svA ⟨?_⟩|refine svu ⟨fun u=>?_⟩|(refine svG (fun hg=>?_) (fun hg=>?_)<;>try exact svx)|refine svh (fun hb=>?_) (fun hb=>?_)|refine svb (fun b=>?_)|fail))
  exact fin_r (h' := .own v2 7 ((crsF s n).map SD.enc) 66 :: h) ⟨v2, rfl, rfl⟩
theorem rmoved_c (s : RT) (n : Int) (h : Heap) (ok : s.Ok) (hi : IdOk s.up) (hf : s.fw = 0) (hpg : s.p.g = false) (hqg : s.q.g = false) (hpw : s.p.ws = []) (hqw : s.q.ws = []) (hnw : 0 ≤ s.nw ∧ s.nw ≤ 4294967295) (hu : hasT s.up s.un = true) (hn : hasT s.up n = true) (ha : atF s.o s.V s.x s.y = some n) :
    ACalls Tryz.prog 16 [s.enc] h (fun r h' => r = .tup [(s.ud n).enc, .ro 7 ((crsF s n).map SD.enc)] ∧ h' = h) := by
  refine (moved_c0 s n h ok hi hf hpg hqg hpw hqw hnw hu hn ha).frzo ?_
  rintro r h' ⟨v, rfl, rfl⟩
  exact .inr ⟨v, 7, _, _, _, h, .here, .tupc (.keep _) (.tupc .hit .tupn), rfl, rfl⟩
end Go.Proofs.YtbknacpdcdkjiaaGreat

/- A motion, as a whole. No condition. -/
namespace Go.Proofs.YtbknacpdcdkjiaaGreat
open Go Go.VM
set_option maxRecDepth 100000
attribute [local irreducible] PurV Pur Step RL W D ACalls Then InBlock Fini
set_option linter.unusedVariables false
set_option linter.unusedSimpArgs false
set_option maxHeartbeats 20000000
theorem step5_c0 (Inv : RT → List SD → Prop) (hb : ∀ s L, Inv s L → s.p.ws.length ≤ 1000000 ∧ s.q.ws.length ≤ 1000000)
    (hs : ∀ s L p n i, Inv s L → pickF s = some (p, n, i) → TakC 96 (s.setd p (hldF (s.dv p) n i)) i [] L (fun s' l => Inv s' (L ++ l) ∧ s'.wts < s.wts))
    (s : RT) (i : IN) (h : Heap) (hk : i.k = 5) (hc : i.c = 0) (ht : 0 ≤ i.t ∧ i.t < 2147483648) (hnw : 0 ≤ s.nw ∧ s.nw < 2147483648) (hct : 0 ≤ s.ct ∧ s.ct < 1000000) (hw : s.p.ws.length < 256) (hi : Inv (fedF s true i) []) :
    ACalls Tryz.prog 11 [s.enc, i.enc] h (fun r h' => ∃ v s' L, Inv s' L ∧ pickF s' = none ∧ r = .tup [s'.enc, .val v, AV.val (.int .i64 (0))] ∧ h' = .own v 7 (L.map SD.enc) 66 :: h) := by
  have kc := fun h => kind_c i.k h (by omega)
  rw [show kdF i.k = ⟨true, 16, false, false, 79⟩ by rw [hk]; rfl] at kc
  have cok := fun h => codeok_c ⟨true, 16, false, false, 79⟩ i.c h
  rw [show witF ⟨true, 16, false, false, 79⟩ i.c = true by unfold witF; simp [hc]] at cok
  have dc := fun b h => device_c b true h
  have fd := fun h => feed_c s.p (i.num (s.ct + 1)) h hw
  have al := fun b0 v H => all_c Inv hb hs b0 v (fedF s true i) [] H hi
  have dn := fun b0 v s L H => done_c b0 v s L H
  clear hb hs hi
  unfold RT.enc runH runC KD.enc DV.enc fedF RT.cn RT.setd RT.dv DV.wait at *
  rw [IN.enc_eq] at *
  refine ACalls.intro Tryz.func11 rfl Tryz.ntmps11 Tryz.results11 (Nat.le_of_ble_eq_true rfl) ?_
  refine W.nil_ 7 66 ?_
  (repeat' (first|refine svz ⟨fun b hq=>?_⟩|refine svA ⟨?_⟩|refine svu ⟨fun u=>?_⟩|(refine svG (fun hg=>?_) (fun hg=>?_)<;>try exact svx)|refine svh (fun hb=>?_) (fun hb=>?_)|refine svb (fun b=>?_)|fail))
  refine S.call ?_; refine (kc _).mono ?_; rintro r h' ⟨rfl, hh⟩; subst hh
  (repeat' (first|refine svz ⟨fun b hq=>?_⟩|refine svA ⟨?_⟩|refine svu ⟨fun u=>?_⟩|(refine svG (fun hg=>?_) (fun hg=>?_)<;>try exact svx)|refine svh (fun hb=>?_) (fun hb=>?_)|refine svb (fun b=>?_)|fail))
  refine S.call ?_; refine (cok _).mono ?_; rintro r h' ⟨rfl, hh⟩; subst hh
  (repeat' (first|refine svz ⟨fun b hq=>?_⟩|refine svA ⟨?_⟩|refine svu ⟨fun u=>?_⟩|(refine svG (fun hg=>?_) (fun hg=>?_)<;>try exact svx)|refine svh (fun hb=>?_) (fun hb=>?_)|refine svb (fun b=>?_)|fail))
  refine S.call ?_; refine (dc _ _).mono ?_; rintro r h' ⟨rfl, hh⟩; subst hh
  (repeat' (first|refine svz ⟨fun b hq=>?_⟩|refine svA ⟨?_⟩|refine svu ⟨fun u=>?_⟩|(refine svG (fun hg=>?_) (fun hg=>?_)<;>try exact svx)|refine svh (fun hb=>?_) (fun hb=>?_)|refine svb (fun b=>?_)|fail))
  refine R2.C (fd _) ?_
  (repeat' (first|refine svz ⟨fun b hq=>?_⟩|refine svA ⟨?_⟩|refine svu ⟨fun u=>?_⟩|(refine svG (fun hg=>?_) (fun hg=>?_)<;>try exact svx)|refine svh (fun hb=>?_) (fun hb=>?_)|refine svb (fun b=>?_)|fail))
  refine S.store_any ?_ (hl := Nat.le_of_ble_eq_true rfl)
  (repeat' (first|refine svz ⟨fun b hq=>?_⟩|refine svA ⟨?_⟩|refine svu ⟨fun u=>?_⟩|(refine svG (fun hg=>?_) (fun hg=>?_)<;>try exact svx)|refine svh (fun hb=>?_) (fun hb=>?_)|refine svb (fun b=>?_)|fail))
  rename_i b2 b3 b4 b7 b9
  refine Step.le (s' := ⟨108, [(9, .val (.pointer (some ⟨b9, 0, none⟩))), (4, .val (.pointer (some ⟨b4, 0, none⟩)))], .box b9 (runC (fedF s true i) (.val (.slice none 0 0))) 135 :: .own (.slice none 0 0) 7 (([] : List SD).map SD.enc) 66 :: .box b4 _ 52 :: h⟩) lee ?_
  refine S.call ?_
  refine (al _ _ _).mono ?_
  rintro r h' ⟨v1, s1, L1, hI, hn, rfl, hh⟩
  subst hh
  (repeat' (first|refine svz ⟨fun b hq=>?_⟩|refine svA ⟨?_⟩|refine svu ⟨fun u=>?_⟩|(refine svG (fun hg=>?_) (fun hg=>?_)<;>try exact svx)|refine svh (fun hb=>?_) (fun hb=>?_)|refine svb (fun b=>?_)|fail))
  refine S.call ?_; refine (dn _ _ _ _ _).mono ?_; rintro r h' ⟨rfl, hh⟩; subst hh
  (repeat' (first|refine svz ⟨fun b hq=>?_⟩|refine svA ⟨?_⟩|refine svu ⟨fun u=>?_⟩|(refine svG (fun hg=>?_) (fun hg=>?_)<;>try exact svx)|refine svh (fun hb=>?_) (fun hb=>?_)|refine svb (fun b=>?_)|fail))
  exact fin_r (h' := .own v1 7 (L1.map SD.enc) 66 :: h) ⟨v1, s1, L1, hI, hn, rfl, rfl⟩
theorem step5_c (Inv : RT → List SD → Prop) (hb : ∀ s L, Inv s L → s.p.ws.length ≤ 1000000 ∧ s.q.ws.length ≤ 1000000)
    (hs : ∀ s L p n i, Inv s L → pickF s = some (p, n, i) → TakC 96 (s.setd p (hldF (s.dv p) n i)) i [] L (fun s' l => Inv s' (L ++ l) ∧ s'.wts < s.wts))
    (s : RT) (i : IN) (h : Heap) (hk : i.k = 5) (hc : i.c = 0) (ht : 0 ≤ i.t ∧ i.t < 2147483648) (hnw : 0 ≤ s.nw ∧ s.nw < 2147483648) (hct : 0 ≤ s.ct ∧ s.ct < 1000000) (hw : s.p.ws.length < 256) (hi : Inv (fedF s true i) []) :
    ACalls Tryz.prog 11 [s.enc, i.enc] h (fun r h' => (∃ s' L, Inv s' L ∧ pickF s' = none ∧ r = .tup [s'.enc, .ro 7 (L.map SD.enc), AV.val (.int .i64 (0))]) ∧ h' = h) := by
  refine (step5_c0 Inv hb hs s i h hk hc ht hnw hct hw hi).frzo ?_
  rintro r h' ⟨v, s', L, hI, hn, rfl, rfl⟩
  exact .inr ⟨v, 7, _, _, _, h, .here, .tupc (.keep _) (.tupc .hit (.keep _)), ⟨s', L, hI, hn, rfl⟩, rfl⟩
end Go.Proofs.YtbknacpdcdkjiaaGreat
