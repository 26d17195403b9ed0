/- canvas: near, came, change. No condition. -/
import Derived.Test.YtfbegifmhgkpjaaGreatZ13
namespace Go.Proofs.YtfbegifmhgkpjaaGreat
open Go Go.VM
attribute [local irreducible] PurV Pur Step RL W D ACalls Then InBlock Fini
set_option linter.unusedVariables false
set_option linter.unusedSimpArgs false
set_option maxHeartbeats 20000000
instance teq_sh : TEqS Tryz.prog 50 [true, true, false] := ⟨by kernel_rfl, by kernel_rfl, by kernel_rfl, by kernel_rfl⟩
structure SHF where
  (dx dy : Int) (fg : Bool)
def vSh (s : SHF) : AV := .agg [.val (.int .i64 (s.dx)), .val (.int .i64 (s.dy)), .val (.bool (s.fg))]
structure SHF.Ok (s : SHF) : Prop where
  x : -20 ≤ s.dx ∧ s.dx ≤ 20
  y : -20 ≤ s.dy ∧ s.dy ≤ 20
set_option maxRecDepth 100000 in
theorem near_c (dx dy : Int) (fg : Bool) (h : Heap) (hx : -20 ≤ dx ∧ dx ≤ 20) (hy : -20 ≤ dy ∧ dy ≤ 20) : ACalls Tryz.prog 92 [.agg [.val (.int .i64 (dx)), .val (.int .i64 (dy)), .val (.bool (fg))]] h (fun r h' => r = .val (.bool (true)) ∧ h' = h) := by
  refine ACalls.intro Tryz.func92 rfl Tryz.ntmps92 Tryz.results92 (Nat.le_of_ble_eq_true rfl) ?_
  (repeat' (first|refine svz ⟨fun b hq=>?_⟩|refine svA ⟨?_⟩|refine svu ⟨fun u=>?_⟩|(refine svG (fun hg=>?_) (fun hg=>?_)<;>try exact svx)|refine svh (fun hb=>?_) (fun hb=>?_)|refine svb (fun b=>?_)|fail))
  refine fin_r (h' := h) ⟨?_, rfl⟩; simp [tupA]; omega
set_option maxRecDepth 100000 in
theorem came_c (g : GR) (h : Heap) (k : g.Ok) : ACalls Tryz.prog 90 [encG g, .agg [.val (.int .i64 (0)), .val (.int .i64 (0)), .val (.bool (false))]] h (fun r h' => r = regE (ofF [⟨0, 0, g.w, g.h⟩]) ∧ h' = h) := by
  have nc := near_c 0 0 false
  have gs := gsize_c g
  have okc : (⟨0, 0, g.w, g.h⟩ : RC).ok := by have := k.w; have := k.h; constructor <;> (unfold I64; dsimp only; omega)
  have o1 := fun h => of_c [⟨0, 0, g.w, g.h⟩] h (by simp) (fun r hr => by rw [List.mem_singleton.1 hr]; exact okc)
  have eo : List.map RC.enc [(⟨0, 0, g.w, g.h⟩ : RC)] = [.agg [.val (.int .i64 (0)), .val (.int .i64 (0)), .val (.int .i64 ((g.w : Int))), .val (.int .i64 ((g.h : Int)))]] := rfl
  rw [eo] at o1
  clear okc eo
  unfold encG regE at *
  refine ACalls.intro Tryz.func90 rfl Tryz.ntmps90 Tryz.results90 (Nat.le_of_ble_eq_true rfl) ?_
  (repeat' (first|refine svz ⟨fun b hq=>?_⟩|refine svA ⟨?_⟩|refine svu ⟨fun u=>?_⟩|(refine svG (fun hg=>?_) (fun hg=>?_)<;>try exact svx)|refine svh (fun hb=>?_) (fun hb=>?_)|refine svb (fun b=>?_)|fail))
  refine S.call ?_; refine (nc _ (by omega) (by omega)).mono ?_; rintro r h' ⟨rfl, hh⟩; subst hh
  (repeat' (first|refine svz ⟨fun b hq=>?_⟩|refine svA ⟨?_⟩|refine svu ⟨fun u=>?_⟩|(refine svG (fun hg=>?_) (fun hg=>?_)<;>try exact svx)|refine svh (fun hb=>?_) (fun hb=>?_)|refine svb (fun b=>?_)|fail))
  refine S.call ?_; refine (gs _).mono ?_; rintro r h' ⟨rfl, hh⟩; subst hh
  (repeat' (first | (refine iR2 ?_; refine r2b ?_; refine R2.one ?_) | (refine iS ?_; refine iN ?_; refine S.build1r ?_) | (refine iS ?_; refine iMu ?_; refine S.mapU ?_) | refine svz ⟨fun b hq=>?_⟩|refine svT ⟨?_⟩|refine svu ⟨fun u=>?_⟩|(refine svG (fun hg=>?_) (fun hg=>?_)<;>try exact svx)|refine svh (fun hb=>?_) (fun hb=>?_)|refine svb (fun b=>?_) | refine sva ?_ | refine sv3 ?_ | fail))
  refine S.call ?_; refine (o1 _).mono ?_; rintro r h' ⟨rfl, hh⟩; subst hh
  (repeat' (first|refine svz ⟨fun b hq=>?_⟩|refine svA ⟨?_⟩|refine svu ⟨fun u=>?_⟩|(refine svG (fun hg=>?_) (fun hg=>?_)<;>try exact svx)|refine svh (fun hb=>?_) (fun hb=>?_)|refine svb (fun b=>?_)|fail))
  exact fin_r (h' := h) ⟨rfl, rfl⟩
set_option maxRecDepth 100000 in
theorem chgB_c (it : IT) (id : Int) (o o2 : List Int) (V V2 : List (Int × SW)) (b0 : BW) (h : Heap) (k : it.g.Ok) (hb : it.bk = true) (hw : b0.w = it.g.w) (hh : b0.h = it.g.h) (ok2 : VOk V2) :
    ACalls Tryz.prog 39 [vIt it, .val (.int .u32 (id)), encW o V, encW o2 V2, vBox b0, .agg [.val (.int .i64 (0)), .val (.int .i64 (0)), .val (.bool (false))]] h (fun r h' => ∃ c : CH, r = .tup [vIt it, c.enc] ∧ h' = h) := by
  have cm := fun h => came_c it.g h k
  have vi := fun h => visible_c o2 V2 id h ok2
  have kw := k.w; have kh := k.h
  have bx : Bx 0 128 (ofF [⟨0, 0, (it.g.w : Int), (it.g.h : Int)⟩]) := .of_has (can_of _) fun x y hx => by
    rw [whole_has _ _ (by omega) (by omega), decide_eq_true_iff] at hx; omega
  have zz := Zx.vis ok2 id
  have t1 := fun h => meet_c (visF V2 id) (ofF [⟨0, 0, it.g.w, it.g.h⟩]) h (zz.jok bx.zx (by omega) (by omega))
  have t2 := fun h => minus_c (visF V2 id) (ofF [⟨0, 0, it.g.w, it.g.h⟩]) h (zz.jok bx.zx (by omega) (by omega))
  have gs := gsize_c it.g
  clear zz bx k
  generalize joinJ (fun p q => p && q) (visF V2 id) (ofF [⟨0, 0, it.g.w, it.g.h⟩]) = R1 at *
  generalize joinJ (fun p q => p && !q) (visF V2 id) (ofF [⟨0, 0, it.g.w, it.g.h⟩]) = R2' at *
  generalize ofF [⟨0, 0, (it.g.w : Int), (it.g.h : Int)⟩] = R3 at *
  have ev : vBox b0 = .agg [.val (.int .i64 (b0.x)), .val (.int .i64 (b0.y)), .val (.int .i64 ((it.g.w : Int))), .val (.int .i64 ((it.g.h : Int))), .val (.bool (b0.m)), .val (.int .i64 (b0.g)), .val (.int .i64 (b0.g)), .val (.bool (b0.sh)), .ro 4 (b0.shape.map RC.enc)] := by rw [← hw, ← hh]; rfl
  rw [ev, show vIt it = (.agg [.val (.int .i64 (((it).g.w : Int))), .val (.int .i64 (((it).g.h : Int))), .ro 1 (ints .u8 (it).g.pix), .val (.int .u8 ((it).gd)), .val (.bool ((it).win)), .val (.bool ((it).bk))]) from rfl, hb]
  unfold encG encW regE at *
  refine ACalls.intro Tryz.func39 rfl Tryz.ntmps39 Tryz.results39 (Nat.le_of_ble_eq_true rfl) ?_
  (repeat' (first|refine svz ⟨fun b hq=>?_⟩|refine svA ⟨?_⟩|refine svu ⟨fun u=>?_⟩|(refine svG (fun hg=>?_) (fun hg=>?_)<;>try exact svx)|refine svh (fun hb=>?_) (fun hb=>?_)|refine svb (fun b=>?_)|fail))
  refine S.call ?_; refine (cm _).mono ?_; rintro r h' ⟨rfl, hh⟩; subst hh
  (repeat' (first|refine svz ⟨fun b hq=>?_⟩|refine svA ⟨?_⟩|refine svu ⟨fun u=>?_⟩|(refine svG (fun hg=>?_) (fun hg=>?_)<;>try exact svx)|refine svh (fun hb=>?_) (fun hb=>?_)|refine svb (fun b=>?_)|fail))
  refine S.call ?_; refine (vi _).mono ?_; rintro r h' ⟨rfl, hh⟩; subst hh
  (repeat' (first|refine svz ⟨fun b hq=>?_⟩|refine svA ⟨?_⟩|refine svu ⟨fun u=>?_⟩|(refine svG (fun hg=>?_) (fun hg=>?_)<;>try exact svx)|refine svh (fun hb=>?_) (fun hb=>?_)|refine svb (fun b=>?_)|fail))
  refine R2.C (t1 _) ?_
  (repeat' (first|refine svz ⟨fun b hq=>?_⟩|refine svA ⟨?_⟩|refine svu ⟨fun u=>?_⟩|(refine svG (fun hg=>?_) (fun hg=>?_)<;>try exact svx)|refine svh (fun hb=>?_) (fun hb=>?_)|refine svb (fun b=>?_)|fail))
  refine R2.C (t2 _) ?_
  (repeat' (first|refine svz ⟨fun b hq=>?_⟩|refine svA ⟨?_⟩|refine svu ⟨fun u=>?_⟩|(refine svG (fun hg=>?_) (fun hg=>?_)<;>try exact svx)|refine svh (fun hb=>?_) (fun hb=>?_)|refine svb (fun b=>?_)|fail))
  rename_i b6 b8 b9 b10 b11 b12 b13 b14 b15 b16
  revert b; intro b17
  refine S.call ?_; refine (gs _).mono ?_; rintro r h' ⟨rfl, hh⟩; subst hh
  (repeat' (first|refine svz ⟨fun b hq=>?_⟩|refine svA ⟨?_⟩|refine svu ⟨fun u=>?_⟩|(refine svG (fun hg=>?_) (fun hg=>?_)<;>try exact svx)|refine svh (fun hb=>?_) (fun hb=>?_)|refine svb (fun b=>?_)|fail))
  refine S.V (v := .val (.bool true)) ?_ (pur_eqlS (sh := [true, true, false]) rfl rfl (by repeat (first | exact IEqS.nil | apply IEqS.i | apply IEqS.b)) rfl (by decide))
  (repeat' (first|refine svz ⟨fun b hq=>?_⟩|refine svA ⟨?_⟩|refine svu ⟨fun u=>?_⟩|(refine svG (fun hg=>?_) (fun hg=>?_)<;>try exact svx)|refine svh (fun hb=>?_) (fun hb=>?_)|refine svb (fun b=>?_)|fail))
  refine W.le (s' := ⟨107, [(6, .val (.pointer (some ⟨b6, 0, none⟩))), (14, .val (.pointer (some ⟨b14, 0, none⟩))), (12, .val (.pointer (some ⟨b12, 0, none⟩))), (13, .val (.pointer (some ⟨b13, 0, none⟩)))], .box b14 [.val (.int .u32 (id)), .ro 4 (R1.map RC.enc), .ro 4 (R2'.map RC.enc)] 120 :: .box b13 [.val (.int .u32 (0)), .val (.slice none 0 0), .val (.slice none 0 0)] 120 :: .box b12 [.val (.int .i64 (0)), .val (.int .i64 (0)), .val (.slice none 0 0), .val (.int .u8 (0)), .val (.bool (false)), .val (.bool (false))] 118 :: .box b6 [.val (.int .i64 ((it.g.w : Int))), .val (.int .i64 ((it.g.h : Int))), .ro 1 (ints .u8 it.g.pix), .val (.int .u8 (it.gd)), .val (.bool (it.win)), .val (.bool (true))] 118 :: h⟩) lee ?_
  refine W.dr (.ro (.rw (.rw (.ro (.done _))))) ?_
  (repeat' (first|refine svz ⟨fun b hq=>?_⟩|refine svA ⟨?_⟩|refine svu ⟨fun u=>?_⟩|(refine svG (fun hg=>?_) (fun hg=>?_)<;>try exact svx)|refine svh (fun hb=>?_) (fun hb=>?_)|refine svb (fun b=>?_)|fail))
  exact fin_r (h' := h) ⟨⟨id, R1, R2'⟩, rfl, rfl⟩
def chgG (V V2 : List (Int × SW)) (id : Int) (w h : Nat) (s : SHF) (it : IT) : GR :=
  if s.fg then ⟨w, h, List.replicate (w * h) it.gd⟩ else (⟨w, h, List.replicate (w * h) it.gd⟩ : GR).mix (fun c d => hasR (kpF V V2 id s.dx s.dy false) c d && layD it.g s.dx s.dy c d) (layF it.g s.dx s.dy)
theorem gr_new_ok {w h : Nat} {p : Int} (hw : 1 ≤ w ∧ w ≤ 128) (hh : 1 ≤ h ∧ h ≤ 128) (hp : 0 ≤ p ∧ p ≤ 255) : (⟨w, h, List.replicate (w * h) p⟩ : GR).Ok := ⟨hw, hh, by simp, fun q hq => by rw [(List.mem_replicate.1 hq).2]; exact hp⟩
theorem GR.at_bd {g : GR} (k : g.Ok) (x y : Int) : 0 ≤ g.at' x y ∧ g.at' x y ≤ 255 := by
  unfold GR.at'
  split
  · rw [List.getD_eq_getElem?_getD]
    cases e : g.pix[(y * g.w + x).toNat]? with
    | none => simp
    | some p => exact k.px p (List.mem_of_getElem? e)
  · omega
theorem chgG_ok {V V2 : List (Int × SW)} {id : Int} {w h : Nat} {s : SHF} {it : IT} (hw : 1 ≤ w ∧ w ≤ 128) (hh : 1 ≤ h ∧ h ≤ 128) (hp : 0 ≤ it.gd ∧ it.gd ≤ 255) (k : it.g.Ok) : (chgG V V2 id w h s it).Ok := by
  unfold chgG
  split
  · exact gr_new_ok hw hh hp
  · exact (gr_new_ok hw hh hp).mix _ fun x y => GR.at_bd k _ _
set_option maxRecDepth 100000 in
theorem chgN_c (it : IT) (id : Int) (o o2 : List Int) (V V2 : List (Int × SW)) (b0 : BW) (w h : Nat) (s : SHF) (H : Heap) (k : it.g.Ok) (hb : it.bk = false) (hp : 0 ≤ it.gd ∧ it.gd ≤ 255) (hbw : b0.w = w) (hbh : b0.h = h) (hw : 1 ≤ w ∧ w ≤ 128) (hh : 1 ≤ h ∧ h ≤ 128) (ok : VOk V) (ok2 : VOk V2) (ks : s.Ok) :
    ACalls Tryz.prog 39 [vIt it, .val (.int .u32 (id)), encW o V, encW o2 V2, vBox b0, vSh s] H (fun r h' => ∃ c : CH, r = .tup [vIt { it with g := chgG V V2 id w h s it }, c.enc] ∧ h' = H) := by
  obtain ⟨dx, dy, fg⟩ := s
  obtain ⟨kx, ky⟩ := ks
  dsimp only at kx ky
  have oc := fun h => one_c o o2 V V2 id dx dy fg h ok ok2 (by omega) (by omega)
  have gs := gsize_c it.g
  have gn := fun H => gnew_c w h it.gd H hw hh
  have nc := fun fg h => near_c dx dy fg h kx ky
  have zk := kp_zx ok ok2 id (dx := dx) (dy := dy) (by omega) (by omega) fg
  have gl := fun H => glay_c ⟨w, h, List.replicate (w * h) it.gd⟩ it.g dx dy (kpF V V2 id dx dy fg) H (gr_new_ok hw hh hp) k (by omega) (by omega) zk.can (by have := zk.len (by omega); omega)
  have ev : vBox b0 = .agg [.val (.int .i64 (b0.x)), .val (.int .i64 (b0.y)), .val (.int .i64 ((w : Int))), .val (.int .i64 ((h : Int))), .val (.bool (b0.m)), .val (.int .i64 (b0.g)), .val (.int .i64 (b0.g)), .val (.bool (b0.sh)), .ro 4 (b0.shape.map RC.enc)] := by rw [← hbw, ← hbh]; rfl
  rw [ev, show vIt it = (.agg [.val (.int .i64 (((it).g.w : Int))), .val (.int .i64 (((it).g.h : Int))), .ro 1 (ints .u8 (it).g.pix), .val (.int .u8 ((it).gd)), .val (.bool ((it).win)), .val (.bool ((it).bk))]) from rfl, hb]
  clear zk ev
  unfold oneF CH.enc at oc
  generalize hkp : kpF V V2 id dx dy fg = KP at *
  generalize NotJ (visF V2 id) KP = NP at *
  dsimp only at oc
  have fin : ∀ g : GR, vIt { g := g, gd := it.gd, win := it.win, bk := false } = .agg [.val (.int .i64 ((g.w : Int))), .val (.int .i64 ((g.h : Int))), .ro 1 (ints .u8 g.pix), .val (.int .u8 (it.gd)), .val (.bool (it.win)), .val (.bool (false))] := fun g => rfl
  have kw := k.w; have kh := k.h
  cases fg
  · have hG : chgG V V2 id w h ⟨dx, dy, false⟩ it = (⟨w, h, List.replicate (w * h) it.gd⟩ : GR).mix (fun c d => hasR KP c d && layD it.g dx dy c d) (layF it.g dx dy) := by
      unfold chgG; dsimp only; rw [if_neg (by decide), hkp]
    rw [hG, fin]
    unfold GR.mix at *
    dsimp only at *
    generalize mixG w (fun c d => hasR KP c d && layD it.g dx dy c d) (layF it.g dx dy) (List.replicate (w * h) it.gd) = P2 at *
    generalize List.replicate (w * h) it.gd = P1 at *
    clear fin hkp hG
    unfold vSh encG encW at *
    dsimp only at *
    refine ACalls.intro Tryz.func39 rfl Tryz.ntmps39 Tryz.results39 (Nat.le_of_ble_eq_true rfl) ?_; (repeat' (first|refine svz ⟨fun b hq=>?_⟩|refine svA ⟨?_⟩|refine svu ⟨fun u=>?_⟩|(refine svG (fun hg=>?_) (fun hg=>?_)<;>try exact svx)|refine svh (fun hb=>?_) (fun hb=>?_)|refine svb (fun b=>?_)|fail)); refine S.call ?_; refine (oc _).mono ?_; rintro r h' ⟨rfl, hh⟩; subst hh; (repeat' (first|refine svz ⟨fun b hq=>?_⟩|refine svA ⟨?_⟩|refine svu ⟨fun u=>?_⟩|(refine svG (fun hg=>?_) (fun hg=>?_)<;>try exact svx)|refine svh (fun hb=>?_) (fun hb=>?_)|refine svb (fun b=>?_)|fail)); rename_i b6 b8 b9 b10 b11 b12 b13 b14 b15; revert b; intro b17; refine S.call ?_; refine (gs _).mono ?_; rintro r h' ⟨rfl, hh⟩; subst hh; (repeat' (first|refine svz ⟨fun b hq=>?_⟩|refine svA ⟨?_⟩|refine svu ⟨fun u=>?_⟩|(refine svG (fun hg=>?_) (fun hg=>?_)<;>try exact svx)|refine svh (fun hb=>?_) (fun hb=>?_)|refine svb (fun b=>?_)|fail)); generalize hz : ((dx == 0) && ((dy == 0) && ((false == false) && true))) = pz; refine S.V (v := .val (.bool pz)) ?_ (pur_eqlS (sh := [true, true, false]) rfl rfl (by repeat (first | exact IEqS.nil | apply IEqS.i | apply IEqS.b)) rfl (by rw [← hz]; simp [Scl.eq]))
    cases pz
    all_goals
      (repeat' (first|refine svz ⟨fun b hq=>?_⟩|refine svA ⟨?_⟩|refine svu ⟨fun u=>?_⟩|(refine svG (fun hg=>?_) (fun hg=>?_)<;>try exact svx)|refine svh (fun hb=>?_) (fun hb=>?_)|refine svb (fun b=>?_)|fail))
    all_goals
      refine S.call ?_; refine (gn _).mono ?_; rintro r h' ⟨rfl, hh⟩; subst hh
      (repeat' (first|refine svz ⟨fun b hq=>?_⟩|refine svA ⟨?_⟩|refine svu ⟨fun u=>?_⟩|(refine svG (fun hg=>?_) (fun hg=>?_)<;>try exact svx)|refine svh (fun hb=>?_) (fun hb=>?_)|refine svb (fun b=>?_)|fail))
      refine S.call ?_; refine (nc _ _).mono ?_; rintro r h' ⟨rfl, hh⟩; subst hh
      (repeat' (first|refine svz ⟨fun b hq=>?_⟩|refine svA ⟨?_⟩|refine svu ⟨fun u=>?_⟩|(refine svG (fun hg=>?_) (fun hg=>?_)<;>try exact svx)|refine svh (fun hb=>?_) (fun hb=>?_)|refine svb (fun b=>?_)|fail))
      refine S.call ?_; refine (gl _).mono ?_; rintro r h' ⟨rfl, hh⟩; subst hh
      (repeat' (first|refine svz ⟨fun b hq=>?_⟩|refine svA ⟨?_⟩|refine svu ⟨fun u=>?_⟩|(refine svG (fun hg=>?_) (fun hg=>?_)<;>try exact svx)|refine svh (fun hb=>?_) (fun hb=>?_)|refine svb (fun b=>?_)|fail))
      refine S.store_any ?_ (hl := Nat.le_of_ble_eq_true rfl)
      (repeat' ((fail_if_success (refine drg ?_)); (first|refine svz ⟨fun b hq=>?_⟩|refine svA ⟨?_⟩|refine svu ⟨fun u=>?_⟩|(refine svG (fun hg=>?_) (fun hg=>?_)<;>try exact svx)|refine svh (fun hb=>?_) (fun hb=>?_)|refine svb (fun b=>?_)|fail))); refine W.le (s' := ⟨107, [(6, .val (.pointer (some ⟨b6, 0, none⟩))), (14, .val (.pointer (some ⟨b14, 0, none⟩))), (12, .val (.pointer (some ⟨b12, 0, none⟩))), (13, .val (.pointer (some ⟨b13, 0, none⟩)))], .box b14 [.val (.int .u32 (id)), .ro 4 (KP.map RC.enc), .ro 4 (NP.map RC.enc)] 120 :: .box b13 [.val (.int .u32 (0)), .val (.slice none 0 0), .val (.slice none 0 0)] 120 :: .box b12 [.val (.int .i64 (0)), .val (.int .i64 (0)), .val (.slice none 0 0), .val (.int .u8 (0)), .val (.bool (false)), .val (.bool (false))] 118 :: .box b6 [.val (.int .i64 ((w : Int))), .val (.int .i64 ((h : Int))), .ro 1 (ints .u8 P2), .val (.int .u8 (it.gd)), .val (.bool (it.win)), .val (.bool (false))] 118 :: H⟩) lee ?_; refine W.dr (.ro (.rw (.rw (.ro (.done _))))) ?_; (repeat' (first|refine svz ⟨fun b hq=>?_⟩|refine svA ⟨?_⟩|refine svu ⟨fun u=>?_⟩|(refine svG (fun hg=>?_) (fun hg=>?_)<;>try exact svx)|refine svh (fun hb=>?_) (fun hb=>?_)|refine svb (fun b=>?_)|fail)); exact fin_r (h' := H) ⟨⟨id, KP, NP⟩, rfl, rfl⟩
  · have hG : chgG V V2 id w h ⟨dx, dy, true⟩ it = ⟨w, h, List.replicate (w * h) it.gd⟩ := by unfold chgG; dsimp only; rw [if_pos rfl]
    rw [hG, fin]
    dsimp only at *
    generalize List.replicate (w * h) it.gd = P1 at *
    clear fin hkp hG gl
    unfold vSh encG encW at *
    dsimp only at *
    refine ACalls.intro Tryz.func39 rfl Tryz.ntmps39 Tryz.results39 (Nat.le_of_ble_eq_true rfl) ?_; (repeat' (first|refine svz ⟨fun b hq=>?_⟩|refine svA ⟨?_⟩|refine svu ⟨fun u=>?_⟩|(refine svG (fun hg=>?_) (fun hg=>?_)<;>try exact svx)|refine svh (fun hb=>?_) (fun hb=>?_)|refine svb (fun b=>?_)|fail)); refine S.call ?_; refine (oc _).mono ?_; rintro r h' ⟨rfl, hh⟩; subst hh; (repeat' (first|refine svz ⟨fun b hq=>?_⟩|refine svA ⟨?_⟩|refine svu ⟨fun u=>?_⟩|(refine svG (fun hg=>?_) (fun hg=>?_)<;>try exact svx)|refine svh (fun hb=>?_) (fun hb=>?_)|refine svb (fun b=>?_)|fail)); rename_i b6 b8 b9 b10 b11 b12 b13 b14 b15; revert b; intro b17; refine S.call ?_; refine (gs _).mono ?_; rintro r h' ⟨rfl, hh⟩; subst hh; (repeat' (first|refine svz ⟨fun b hq=>?_⟩|refine svA ⟨?_⟩|refine svu ⟨fun u=>?_⟩|(refine svG (fun hg=>?_) (fun hg=>?_)<;>try exact svx)|refine svh (fun hb=>?_) (fun hb=>?_)|refine svb (fun b=>?_)|fail)); generalize hz : ((dx == 0) && ((dy == 0) && ((true == false) && true))) = pz; refine S.V (v := .val (.bool pz)) ?_ (pur_eqlS (sh := [true, true, false]) rfl rfl (by repeat (first | exact IEqS.nil | apply IEqS.i | apply IEqS.b)) rfl (by rw [← hz]; simp [Scl.eq]))
    cases pz
    all_goals
      (repeat' (first|refine svz ⟨fun b hq=>?_⟩|refine svA ⟨?_⟩|refine svu ⟨fun u=>?_⟩|(refine svG (fun hg=>?_) (fun hg=>?_)<;>try exact svx)|refine svh (fun hb=>?_) (fun hb=>?_)|refine svb (fun b=>?_)|fail))
    all_goals
      refine S.call ?_; refine (gn _).mono ?_; rintro r h' ⟨rfl, hh⟩; subst hh
      (repeat' (first|refine svz ⟨fun b hq=>?_⟩|refine svA ⟨?_⟩|refine svu ⟨fun u=>?_⟩|(refine svG (fun hg=>?_) (fun hg=>?_)<;>try exact svx)|refine svh (fun hb=>?_) (fun hb=>?_)|refine svb (fun b=>?_)|fail))
      refine S.call ?_; refine (nc _ _).mono ?_; rintro r h' ⟨rfl, hh⟩; subst hh
      (repeat' (first|refine svz ⟨fun b hq=>?_⟩|refine svA ⟨?_⟩|refine svu ⟨fun u=>?_⟩|(refine svG (fun hg=>?_) (fun hg=>?_)<;>try exact svx)|refine svh (fun hb=>?_) (fun hb=>?_)|refine svb (fun b=>?_)|fail))
      refine S.store_any ?_ (hl := Nat.le_of_ble_eq_true rfl)
      (repeat' ((fail_if_success (refine drg ?_)); (first|refine svz ⟨fun b hq=>?_⟩|refine svA ⟨?_⟩|refine svu ⟨fun u=>?_⟩|(refine svG (fun hg=>?_) (fun hg=>?_)<;>try exact svx)|refine svh (fun hb=>?_) (fun hb=>?_)|refine svb (fun b=>?_)|fail))); refine W.le (s' := ⟨107, [(6, .val (.pointer (some ⟨b6, 0, none⟩))), (14, .val (.pointer (some ⟨b14, 0, none⟩))), (12, .val (.pointer (some ⟨b12, 0, none⟩))), (13, .val (.pointer (some ⟨b13, 0, none⟩)))], .box b14 [.val (.int .u32 (id)), .ro 4 (KP.map RC.enc), .ro 4 (NP.map RC.enc)] 120 :: .box b13 [.val (.int .u32 (0)), .val (.slice none 0 0), .val (.slice none 0 0)] 120 :: .box b12 [.val (.int .i64 (0)), .val (.int .i64 (0)), .val (.slice none 0 0), .val (.int .u8 (0)), .val (.bool (false)), .val (.bool (false))] 118 :: .box b6 [.val (.int .i64 ((w : Int))), .val (.int .i64 ((h : Int))), .ro 1 (ints .u8 P1), .val (.int .u8 (it.gd)), .val (.bool (it.win)), .val (.bool (false))] 118 :: H⟩) lee ?_; refine W.dr (.ro (.rw (.rw (.ro (.done _))))) ?_; (repeat' (first|refine svz ⟨fun b hq=>?_⟩|refine svA ⟨?_⟩|refine svu ⟨fun u=>?_⟩|(refine svG (fun hg=>?_) (fun hg=>?_)<;>try exact svx)|refine svh (fun hb=>?_) (fun hb=>?_)|refine svb (fun b=>?_)|fail)); exact fin_r (h' := H) ⟨⟨id, KP, NP⟩, rfl, rfl⟩
end Go.Proofs.YtfbegifmhgkpjaaGreat
