/- TopFocus: what is made of the windows. No condition. -/
import Derived.Test.YtbknacpdcdkjiaaGreatF6
import Derived.Test.YtbknacpdcdkjiaaGreatF9
namespace Go.Proofs.YtbknacpdcdkjiaaGreat
open Go Go.VM
attribute [local irreducible] PurV Pur Step RL W D ACalls Then InBlock Fini
set_option linter.unusedVariables false
set_option linter.unusedSimpArgs false
set_option maxHeartbeats 20000000
def FW.enc (w : FW) : AV := .agg [AV.val (.int .u8 (w.u)), AV.val (.bool (w.m)), AV.val (.int .u8 (w.c)), AV.val (.bool (w.st)), AV.val (.int .i8 (w.x)), AV.val (.int .i8 (w.y))]
def DV.z : DV := ⟨AC.z, false, false, false, IN.z, false, []⟩
def stZ (f : FS) (x y : Int) : RT := ⟨f.k, f.up, orF f.k f.up f.t, vwF f.k f.up f.t, f.M, f.N, 0, 0, 0, DV.z, DV.z, x, y, 0, 0, 0, 0, (atF (orF f.k f.up f.t) (vwF f.k f.up f.t) x y).getD 0⟩
set_option maxRecDepth 100000 in
theorem fmade_c (l : List FW) (x y : Int) (H : Heap) (hl : l.length ≤ 9223372036854775807) (okl : ∀ w ∈ l, w.Ok) (hx : 0 ≤ x ∧ x ≤ 255) (hy : 0 ≤ y ∧ y ≤ 255) :
    ACalls Tryz.prog 7 [.ro 6 (l.map FW.enc), AV.val (.int .u8 (x)), AV.val (.int .u8 (y))] H (fun r h' => ((l.length ≤ 8 ∧ r = .tup [(stZ (fsF l l.length) (x % 12) (y % 12)).enc, AV.val (.bool (true))]) ∨ (8 < l.length ∧ ∃ s : RT, r = .tup [s.enc, AV.val (.bool (false))])) ∧ h' = H) := by
  have nw := fun h => new_c h
  have pn := fun h => pnew_c 12 12 h (by decide) (by decide)
  unfold encP at pn
  unfold encT at nw
  refine ACalls.intro Tryz.func7 rfl Tryz.ntmps7 Tryz.results7 (Nat.le_of_ble_eq_true rfl) ?_
  (repeat' (first|refine svz ⟨fun b hq=>?_⟩|refine svA ⟨?_⟩|refine svu ⟨fun u=>?_⟩|(refine svG (fun hg=>?_) (fun hg=>?_)<;>try exact svx)|refine svh (fun hb=>?_) (fun hb=>?_)|refine svb (fun b=>?_)|fail))
  rename_i b6
  revert b; intro b8
  refine S.call ?_; refine (nw _).mono ?_; rintro r h' ⟨rfl, hh⟩; subst hh
  (repeat' (first|refine svz ⟨fun b hq=>?_⟩|refine svA ⟨?_⟩|refine svu ⟨fun u=>?_⟩|(refine svG (fun hg=>?_) (fun hg=>?_)<;>try exact svx)|refine svh (fun hb=>?_) (fun hb=>?_)|refine svb (fun b=>?_)|fail))
  revert b; intro b9
  refine S.call ?_; refine (pn _).mono ?_; rintro r h' ⟨rfl, hh⟩; subst hh
  clear nw pn
  (repeat' (first | (refine iS ?_; refine iMu ?_; refine S.mapU ?_) | refine svz ⟨fun b hq=>?_⟩|refine svT ⟨?_⟩|refine svu ⟨fun u=>?_⟩|(refine svG (fun hg=>?_) (fun hg=>?_)<;>try exact svx)|refine svh (fun hb=>?_) (fun hb=>?_)|refine svb (fun b=>?_) | ((fail_if_success (refine sva ?_)); refine sv3 ?_) | fail))
  revert b; intro b10
  refine W.le (s' := ⟨154, [(11, AV.val (.int .i64 (0))), (10, .val (.pointer (some ⟨b10, 0, none⟩))), (9, .val (.pointer (some ⟨b9, 0, none⟩))), (8, .val (.pointer (some ⟨b8, 0, none⟩))), (7, AV.val (.bool (false))), (6, .val (.pointer (some ⟨b6, 0, none⟩))), (0, .ro 6 (l.map FW.enc)), (1, AV.val (.int .u8 (x))), (2, AV.val (.int .u8 (y)))], .box b10 [mapV .u32 vBox ([(1, rootB 12 12)])] 106 :: .box b9 [mapV .u32 vIds (([] : SVT)), mapV .u32 (vI .u32) (([] : UP))] 28 :: .box b8 (mapV .u32 vIds (([] : SVT)) :: mapV .u32 (vI .u32) (([] : UP)) :: AV.ro 1 (ints .u32 (([] : List Int))) :: mapV .u32 vSW (([] : List (Int × SW))) :: mapK (vI .i64) (([] : CM)) :: mapV .u32 (vI .i64) (([] : CS)) :: AV.val (.int .u32 (0)) :: AV.val (.int .i64 (0)) :: AV.val (.int .u32 (0)) :: AV.ro 9 [] :: AV.val (.int .i64 (0)) :: AV.val (.int .u32 (0)) :: AV.val (.bool (false)) :: AV.val (.int .i64 (0)) :: AV.val (.bool (false)) :: AV.val (.bool (false)) :: AV.val (.int .i64 (0)) :: AV.val (.int .u32 (0)) :: AV.val (.bool (false)) :: AV.val (.bool (false)) :: AV.val (.bool (false)) :: AV.val (.int .i64 (0)) :: AV.val (.int .i64 (0)) :: AV.val (.int .i64 (0)) :: AV.val (.int .i64 (0)) :: AV.val (.int .u32 (0)) :: AV.val (.int .i64 (0)) :: AV.val (.bool (false)) :: AV.ro 6 [] :: AV.val (.int .i64 (0)) :: AV.val (.int .u32 (0)) :: AV.val (.bool (false)) :: AV.val (.int .i64 (0)) :: AV.val (.bool (false)) :: AV.val (.bool (false)) :: AV.val (.int .i64 (0)) :: AV.val (.int .u32 (0)) :: AV.val (.bool (false)) :: AV.val (.bool (false)) :: AV.val (.bool (false)) :: AV.val (.int .i64 (0)) :: AV.val (.int .i64 (0)) :: AV.val (.int .i64 (0)) :: AV.val (.int .i64 (0)) :: AV.val (.int .u32 (0)) :: AV.val (.int .i64 (0)) :: AV.val (.bool (false)) :: AV.ro 6 [] :: AV.val (.int .i64 (0)) :: AV.val (.int .i64 (0)) :: AV.val (.int .i64 (0)) :: AV.val (.int .i64 (0)) :: AV.val (.int .i64 (0)) :: AV.val (.int .u32 (0)) :: AV.val (.int .u32 (0)) :: []) 52 :: .box b6 (mapV .u32 vIds (([] : SVT)) :: mapV .u32 (vI .u32) (([] : UP)) :: AV.ro 1 (ints .u32 (([] : List Int))) :: mapV .u32 vSW (([] : List (Int × SW))) :: mapK (vI .i64) (([] : CM)) :: mapV .u32 (vI .i64) (([] : CS)) :: AV.val (.int .u32 (0)) :: AV.val (.int .i64 (0)) :: AV.val (.int .u32 (0)) :: AV.ro 9 [] :: AV.val (.int .i64 (0)) :: AV.val (.int .u32 (0)) :: AV.val (.bool (false)) :: AV.val (.int .i64 (0)) :: AV.val (.bool (false)) :: AV.val (.bool (false)) :: AV.val (.int .i64 (0)) :: AV.val (.int .u32 (0)) :: AV.val (.bool (false)) :: AV.val (.bool (false)) :: AV.val (.bool (false)) :: AV.val (.int .i64 (0)) :: AV.val (.int .i64 (0)) :: AV.val (.int .i64 (0)) :: AV.val (.int .i64 (0)) :: AV.val (.int .u32 (0)) :: AV.val (.int .i64 (0)) :: AV.val (.bool (false)) :: AV.ro 6 [] :: AV.val (.int .i64 (0)) :: AV.val (.int .u32 (0)) :: AV.val (.bool (false)) :: AV.val (.int .i64 (0)) :: AV.val (.bool (false)) :: AV.val (.bool (false)) :: AV.val (.int .i64 (0)) :: AV.val (.int .u32 (0)) :: AV.val (.bool (false)) :: AV.val (.bool (false)) :: AV.val (.bool (false)) :: AV.val (.int .i64 (0)) :: AV.val (.int .i64 (0)) :: AV.val (.int .i64 (0)) :: AV.val (.int .i64 (0)) :: AV.val (.int .u32 (0)) :: AV.val (.int .i64 (0)) :: AV.val (.bool (false)) :: AV.ro 6 [] :: AV.val (.int .i64 (0)) :: AV.val (.int .i64 (0)) :: AV.val (.int .i64 (0)) :: AV.val (.int .i64 (0)) :: AV.val (.int .i64 (0)) :: AV.val (.int .u32 (0)) :: AV.val (.int .u32 (0)) :: []) 52 :: H⟩) lee ?_
  by_cases hl8 : l.length ≤ 8
  rotate_left
  · (repeat' (first|refine svz ⟨fun b hq=>?_⟩|refine svA ⟨?_⟩|refine svu ⟨fun u=>?_⟩|(refine svG (fun hg=>?_) (fun hg=>?_)<;>try exact svx)|refine svh (fun hb=>?_) (fun hb=>?_)|refine svb (fun b=>?_)|fail))
    exact fin_r (h' := H) ⟨.inr ⟨by omega, ⟨[], [], [], [], [], [], 0, 0, 0, DV.z, DV.z, 0, 0, 0, 0, 0, 0, 0⟩, rfl⟩, rfl⟩
  (repeat' (first|refine svz ⟨fun b hq=>?_⟩|refine svA ⟨?_⟩|refine svu ⟨fun u=>?_⟩|(refine svG (fun hg=>?_) (fun hg=>?_)<;>try exact svx)|refine svh (fun hb=>?_) (fun hb=>?_)|refine svb (fun b=>?_)|fail))
  refine W.loop (J := fun i : Nat => ⟨154, [(41, AV.val (.int .i64 ((i : Int)))), (40, AV.val (.int .i64 ((l.length : Int)))), (39, .ro 6 (l.map FW.enc)), (10, .val (.pointer (some ⟨b10, 0, none⟩))), (9, .val (.pointer (some ⟨b9, 0, none⟩))), (8, .val (.pointer (some ⟨b8, 0, none⟩))), (7, AV.val (.bool (false))), (6, .val (.pointer (some ⟨b6, 0, none⟩))), (1, AV.val (.int .u8 (x))), (2, AV.val (.int .u8 (y)))], .box b10 [mapV .u32 vBox ((fsF l i).t)] 106 :: .box b9 [mapV .u32 vIds ((fsF l i).k), mapV .u32 (vI .u32) ((fsF l i).up)] 28 :: .box b8 (mapV .u32 vIds (([] : SVT)) :: mapV .u32 (vI .u32) (([] : UP)) :: AV.ro 1 (ints .u32 (([] : List Int))) :: mapV .u32 vSW (([] : List (Int × SW))) :: mapK (vI .i64) ((fsF l i).M) :: mapV .u32 (vI .i64) ((fsF l i).N) :: AV.val (.int .u32 (0)) :: AV.val (.int .i64 (0)) :: AV.val (.int .u32 (0)) :: AV.ro 9 [] :: AV.val (.int .i64 (0)) :: AV.val (.int .u32 (0)) :: AV.val (.bool (false)) :: AV.val (.int .i64 (0)) :: AV.val (.bool (false)) :: AV.val (.bool (false)) :: AV.val (.int .i64 (0)) :: AV.val (.int .u32 (0)) :: AV.val (.bool (false)) :: AV.val (.bool (false)) :: AV.val (.bool (false)) :: AV.val (.int .i64 (0)) :: AV.val (.int .i64 (0)) :: AV.val (.int .i64 (0)) :: AV.val (.int .i64 (0)) :: AV.val (.int .u32 (0)) :: AV.val (.int .i64 (0)) :: AV.val (.bool (false)) :: AV.ro 6 [] :: AV.val (.int .i64 (0)) :: AV.val (.int .u32 (0)) :: AV.val (.bool (false)) :: AV.val (.int .i64 (0)) :: AV.val (.bool (false)) :: AV.val (.bool (false)) :: AV.val (.int .i64 (0)) :: AV.val (.int .u32 (0)) :: AV.val (.bool (false)) :: AV.val (.bool (false)) :: AV.val (.bool (false)) :: AV.val (.int .i64 (0)) :: AV.val (.int .i64 (0)) :: AV.val (.int .i64 (0)) :: AV.val (.int .i64 (0)) :: AV.val (.int .u32 (0)) :: AV.val (.int .i64 (0)) :: AV.val (.bool (false)) :: AV.ro 6 [] :: AV.val (.int .i64 (0)) :: AV.val (.int .i64 (0)) :: AV.val (.int .i64 (0)) :: AV.val (.int .i64 (0)) :: AV.val (.int .i64 (0)) :: AV.val (.int .u32 (0)) :: AV.val (.int .u32 (0)) :: []) 52 :: .box b6 (mapV .u32 vIds (([] : SVT)) :: mapV .u32 (vI .u32) (([] : UP)) :: AV.ro 1 (ints .u32 (([] : List Int))) :: mapV .u32 vSW (([] : List (Int × SW))) :: mapK (vI .i64) (([] : CM)) :: mapV .u32 (vI .i64) (([] : CS)) :: AV.val (.int .u32 (0)) :: AV.val (.int .i64 (0)) :: AV.val (.int .u32 (0)) :: AV.ro 9 [] :: AV.val (.int .i64 (0)) :: AV.val (.int .u32 (0)) :: AV.val (.bool (false)) :: AV.val (.int .i64 (0)) :: AV.val (.bool (false)) :: AV.val (.bool (false)) :: AV.val (.int .i64 (0)) :: AV.val (.int .u32 (0)) :: AV.val (.bool (false)) :: AV.val (.bool (false)) :: AV.val (.bool (false)) :: AV.val (.int .i64 (0)) :: AV.val (.int .i64 (0)) :: AV.val (.int .i64 (0)) :: AV.val (.int .i64 (0)) :: AV.val (.int .u32 (0)) :: AV.val (.int .i64 (0)) :: AV.val (.bool (false)) :: AV.ro 6 [] :: AV.val (.int .i64 (0)) :: AV.val (.int .u32 (0)) :: AV.val (.bool (false)) :: AV.val (.int .i64 (0)) :: AV.val (.bool (false)) :: AV.val (.bool (false)) :: AV.val (.int .i64 (0)) :: AV.val (.int .u32 (0)) :: AV.val (.bool (false)) :: AV.val (.bool (false)) :: AV.val (.bool (false)) :: AV.val (.int .i64 (0)) :: AV.val (.int .i64 (0)) :: AV.val (.int .i64 (0)) :: AV.val (.int .i64 (0)) :: AV.val (.int .u32 (0)) :: AV.val (.int .i64 (0)) :: AV.val (.bool (false)) :: AV.ro 6 [] :: AV.val (.int .i64 (0)) :: AV.val (.int .i64 (0)) :: AV.val (.int .i64 (0)) :: AV.val (.int .i64 (0)) :: AV.val (.int .i64 (0)) :: AV.val (.int .u32 (0)) :: AV.val (.int .u32 (0)) :: []) 52 :: H⟩) (Φ := fun i => i ≤ l.length) (μ := fun i => l.length - i) 0 lee (Nat.zero_le _) ?_
  rintro i hi
  dsimp only
  have ok := fsF_ok okl hi
  rcases Nat.lt_or_ge i l.length with hlt | hge
  · obtain ⟨w, hw⟩ : ∃ w, l[i]? = some w := ⟨_, List.getElem?_eq_getElem hlt⟩
    have hs := fsF_step hw
    have okw := okl w (List.mem_of_getElem? hw)
    obtain ⟨hu1, hu2⟩ := okw.u
    obtain ⟨hc1, hc2⟩ := okw.c
    have tx := okw.box.x
    have ty := okw.box.y
    unfold FW.box at tx ty
    dsimp only at tx ty
    obtain ⟨n, hn⟩ : ∃ n, n = w.up i := ⟨_, rfl⟩
    have hnl : n ≤ i := by rw [hn]; exact Nat.le_of_lt_succ (Nat.mod_lt _ (Nat.succ_pos i))
    have q : Unit → w.u % ((i : Int) + 1) = (n : Int) := fun _ => by
      rw [hn]; unfold FW.up; rw [Int.natCast_emod, Int.toNat_of_nonneg hu1]; push_cast; rfl
    have kw := ok.kw
    have ch := ok.ch
    have ch2 := ch.succ w i
    have hib := idT_bd (n := i + 1) (by omega)
    have hic := idT_ic (n := i + 1) (by omega)
    have hid1 := idT_0 (j := i + 1) (by omega)
    have hidn : idT n = if n = 0 then 1 else 1048576 + (n : Int) := rfl
    have hidi : idT (i + 1) = 1048576 + (i : Int) + 1 := by rw [idT_pos (by omega)]; push_cast; omega
    have ad := fun h => add_c (fsF l i).k (fsF l i).up (idT (i + 1)) (idT n) h (by omega) hib.2 hic (kw.no (Nat.lt_succ_self i)).2 (kw.has' n hnl) (by rw [kw.ul]; omega) kw.tw.kn kw.tw.un (fun p hp => by have := kw.tw.ol p hp; have := kw.ul; omega) (by have := kw.tw.ofl (idT n); have := kw.ul; omega) (by have := kw.tw.kl; have := kw.ul; omega)
    have ps := fun h => pset_c (fsF l i).t (idT (i + 1)) w.box h (by omega) hib.2 hid1 hic okw.box kw.tne (by have := kw.tl; omega)
    have cs := fun hc h => cset_c (fsF l i).M (fsF l i).N (w.c % 4) (idT (i + 1)) 3 h ch.mn ch.nn (by have := ch.ml; omega) (by have := ch.nl; omega) hc (by omega) (by decide) (fun o _ => ch.hx o _)
    have cst := fun h => cstop_c (fsM w i (fsF l i).M) (fsF l i).N (idT (i + 1)) 1 h ch2.mn ch.nn (by have := ch2.ml; omega) (by have := ch.nl; omega) (by omega) (by decide)
    unfold fsS at hs
    rw [← hn] at hs
    clear ok ch ch2 kw okw hn
    generalize fsF l i = f at *
    obtain ⟨k, up, t, M, N⟩ := f
    dsimp only at ad ps cs cst hs ⊢
    generalize putF k (idT n) (ofS k (idT n) ++ [idT (i + 1)]) = k2 at *
    generalize putF up (idT (i + 1)) (idT n) = up2 at *
    generalize putF t (idT (i + 1)) w.box = t2 at *
    rw [show vBox w.box = .agg [AV.val (.int .i64 (w.x.tmod 6)), AV.val (.int .i64 (w.y.tmod 6)), AV.val (.int .i64 (7)), AV.val (.int .i64 (7)), AV.val (.bool (w.m)), AV.val (.int .i64 (1)), AV.val (.int .i64 (1)), AV.val (.bool (false)), .ro 4 []] from rfl] at ps
    have ps2 := fun h => (ps h).args (vs := [encP t, AV.val (.int .u32 (idT (i + 1))), .agg [AV.val (.int .i64 (w.x.tmod 6)), AV.val (.int .i64 (w.y.tmod 6)), AV.val (.int .i64 (7)), AV.val (.int .i64 (7)), AV.val (.bool (w.m)), AV.val (.int .i64 (1)), AV.val (.int .i64 (1)), AV.val (.bool (false)), .val (.slice none 0 0)]]) (by (repeat (first | exact Wk.refl _ | exact Wk.nilr _ | exact Wk.nilm | apply Wk.aggc | apply Wk.tupc | exact Wk.aggn | exact Wk.tupn)); first | done | fail)
    clear ps
    generalize hI1 : idT (i + 1) = id at *
    generalize hI2 : idT n = idn at *
    unfold encT encP encC at *
    (repeat' (first | (refine iS ?_; refine iMu ?_; refine S.mapU ?_) | refine svz ⟨fun b hq=>?_⟩|refine svT ⟨?_⟩|refine svu ⟨fun u=>?_⟩|(refine svG (fun hg=>?_) (fun hg=>?_)<;>try exact svx)|refine svh (fun hb=>?_) (fun hb=>?_)|refine svb (fun b=>?_) | ((fail_if_success (refine sva ?_)); refine sv3 ?_) | fail))
    revert b; intro b13
    refine W.mid (J := fun _ : Unit => ⟨154, [(14, AV.val (.int .u32 (idn))), (13, .val (.pointer (some ⟨b13, 0, none⟩))), (12, AV.val (.int .i64 ((i : Int)))), (41, AV.val (.int .i64 ((i : Int)))), (40, AV.val (.int .i64 ((l.length : Int)))), (39, .ro 6 (l.map FW.enc)), (10, .val (.pointer (some ⟨b10, 0, none⟩))), (9, .val (.pointer (some ⟨b9, 0, none⟩))), (8, .val (.pointer (some ⟨b8, 0, none⟩))), (7, AV.val (.bool (false))), (6, .val (.pointer (some ⟨b6, 0, none⟩))), (1, AV.val (.int .u8 (x))), (2, AV.val (.int .u8 (y)))], .box b13 [AV.val (.int .u8 (w.u)), AV.val (.bool (w.m)), AV.val (.int .u8 (w.c)), AV.val (.bool (w.st)), AV.val (.int .i8 (w.x)), AV.val (.int .i8 (w.y))] 102 :: .box b10 [mapV .u32 vBox (t)] 106 :: .box b9 [mapV .u32 vIds (k), mapV .u32 (vI .u32) (up)] 28 :: .box b8 (mapV .u32 vIds (([] : SVT)) :: mapV .u32 (vI .u32) (([] : UP)) :: AV.ro 1 (ints .u32 (([] : List Int))) :: mapV .u32 vSW (([] : List (Int × SW))) :: mapK (vI .i64) (M) :: mapV .u32 (vI .i64) (N) :: AV.val (.int .u32 (0)) :: AV.val (.int .i64 (0)) :: AV.val (.int .u32 (0)) :: AV.ro 9 [] :: AV.val (.int .i64 (0)) :: AV.val (.int .u32 (0)) :: AV.val (.bool (false)) :: AV.val (.int .i64 (0)) :: AV.val (.bool (false)) :: AV.val (.bool (false)) :: AV.val (.int .i64 (0)) :: AV.val (.int .u32 (0)) :: AV.val (.bool (false)) :: AV.val (.bool (false)) :: AV.val (.bool (false)) :: AV.val (.int .i64 (0)) :: AV.val (.int .i64 (0)) :: AV.val (.int .i64 (0)) :: AV.val (.int .i64 (0)) :: AV.val (.int .u32 (0)) :: AV.val (.int .i64 (0)) :: AV.val (.bool (false)) :: AV.ro 6 [] :: AV.val (.int .i64 (0)) :: AV.val (.int .u32 (0)) :: AV.val (.bool (false)) :: AV.val (.int .i64 (0)) :: AV.val (.bool (false)) :: AV.val (.bool (false)) :: AV.val (.int .i64 (0)) :: AV.val (.int .u32 (0)) :: AV.val (.bool (false)) :: AV.val (.bool (false)) :: AV.val (.bool (false)) :: AV.val (.int .i64 (0)) :: AV.val (.int .i64 (0)) :: AV.val (.int .i64 (0)) :: AV.val (.int .i64 (0)) :: AV.val (.int .u32 (0)) :: AV.val (.int .i64 (0)) :: AV.val (.bool (false)) :: AV.ro 6 [] :: AV.val (.int .i64 (0)) :: AV.val (.int .i64 (0)) :: AV.val (.int .i64 (0)) :: AV.val (.int .i64 (0)) :: AV.val (.int .i64 (0)) :: AV.val (.int .u32 (0)) :: AV.val (.int .u32 (0)) :: []) 52 :: .box b6 (mapV .u32 vIds (([] : SVT)) :: mapV .u32 (vI .u32) (([] : UP)) :: AV.ro 1 (ints .u32 (([] : List Int))) :: mapV .u32 vSW (([] : List (Int × SW))) :: mapK (vI .i64) (([] : CM)) :: mapV .u32 (vI .i64) (([] : CS)) :: AV.val (.int .u32 (0)) :: AV.val (.int .i64 (0)) :: AV.val (.int .u32 (0)) :: AV.ro 9 [] :: AV.val (.int .i64 (0)) :: AV.val (.int .u32 (0)) :: AV.val (.bool (false)) :: AV.val (.int .i64 (0)) :: AV.val (.bool (false)) :: AV.val (.bool (false)) :: AV.val (.int .i64 (0)) :: AV.val (.int .u32 (0)) :: AV.val (.bool (false)) :: AV.val (.bool (false)) :: AV.val (.bool (false)) :: AV.val (.int .i64 (0)) :: AV.val (.int .i64 (0)) :: AV.val (.int .i64 (0)) :: AV.val (.int .i64 (0)) :: AV.val (.int .u32 (0)) :: AV.val (.int .i64 (0)) :: AV.val (.bool (false)) :: AV.ro 6 [] :: AV.val (.int .i64 (0)) :: AV.val (.int .u32 (0)) :: AV.val (.bool (false)) :: AV.val (.int .i64 (0)) :: AV.val (.bool (false)) :: AV.val (.bool (false)) :: AV.val (.int .i64 (0)) :: AV.val (.int .u32 (0)) :: AV.val (.bool (false)) :: AV.val (.bool (false)) :: AV.val (.bool (false)) :: AV.val (.int .i64 (0)) :: AV.val (.int .i64 (0)) :: AV.val (.int .i64 (0)) :: AV.val (.int .i64 (0)) :: AV.val (.int .u32 (0)) :: AV.val (.int .i64 (0)) :: AV.val (.bool (false)) :: AV.ro 6 [] :: AV.val (.int .i64 (0)) :: AV.val (.int .i64 (0)) :: AV.val (.int .i64 (0)) :: AV.val (.int .i64 (0)) :: AV.val (.int .i64 (0)) :: AV.val (.int .u32 (0)) :: AV.val (.int .u32 (0)) :: []) 52 :: H⟩) (Φ := fun _ => True) ?_ ?_
    · refine W.mid (J := fun _ : Unit => ⟨154, [(15, AV.val (.int .i64 ((n : Int)))), (14, AV.val (.int .u32 (1))), (13, .val (.pointer (some ⟨b13, 0, none⟩))), (12, AV.val (.int .i64 ((i : Int)))), (41, AV.val (.int .i64 ((i : Int)))), (40, AV.val (.int .i64 ((l.length : Int)))), (39, .ro 6 (l.map FW.enc)), (10, .val (.pointer (some ⟨b10, 0, none⟩))), (9, .val (.pointer (some ⟨b9, 0, none⟩))), (8, .val (.pointer (some ⟨b8, 0, none⟩))), (7, AV.val (.bool (false))), (6, .val (.pointer (some ⟨b6, 0, none⟩))), (1, AV.val (.int .u8 (x))), (2, AV.val (.int .u8 (y)))], .box b13 [AV.val (.int .u8 (w.u)), AV.val (.bool (w.m)), AV.val (.int .u8 (w.c)), AV.val (.bool (w.st)), AV.val (.int .i8 (w.x)), AV.val (.int .i8 (w.y))] 102 :: .box b10 [mapV .u32 vBox (t)] 106 :: .box b9 [mapV .u32 vIds (k), mapV .u32 (vI .u32) (up)] 28 :: .box b8 (mapV .u32 vIds (([] : SVT)) :: mapV .u32 (vI .u32) (([] : UP)) :: AV.ro 1 (ints .u32 (([] : List Int))) :: mapV .u32 vSW (([] : List (Int × SW))) :: mapK (vI .i64) (M) :: mapV .u32 (vI .i64) (N) :: AV.val (.int .u32 (0)) :: AV.val (.int .i64 (0)) :: AV.val (.int .u32 (0)) :: AV.ro 9 [] :: AV.val (.int .i64 (0)) :: AV.val (.int .u32 (0)) :: AV.val (.bool (false)) :: AV.val (.int .i64 (0)) :: AV.val (.bool (false)) :: AV.val (.bool (false)) :: AV.val (.int .i64 (0)) :: AV.val (.int .u32 (0)) :: AV.val (.bool (false)) :: AV.val (.bool (false)) :: AV.val (.bool (false)) :: AV.val (.int .i64 (0)) :: AV.val (.int .i64 (0)) :: AV.val (.int .i64 (0)) :: AV.val (.int .i64 (0)) :: AV.val (.int .u32 (0)) :: AV.val (.int .i64 (0)) :: AV.val (.bool (false)) :: AV.ro 6 [] :: AV.val (.int .i64 (0)) :: AV.val (.int .u32 (0)) :: AV.val (.bool (false)) :: AV.val (.int .i64 (0)) :: AV.val (.bool (false)) :: AV.val (.bool (false)) :: AV.val (.int .i64 (0)) :: AV.val (.int .u32 (0)) :: AV.val (.bool (false)) :: AV.val (.bool (false)) :: AV.val (.bool (false)) :: AV.val (.int .i64 (0)) :: AV.val (.int .i64 (0)) :: AV.val (.int .i64 (0)) :: AV.val (.int .i64 (0)) :: AV.val (.int .u32 (0)) :: AV.val (.int .i64 (0)) :: AV.val (.bool (false)) :: AV.ro 6 [] :: AV.val (.int .i64 (0)) :: AV.val (.int .i64 (0)) :: AV.val (.int .i64 (0)) :: AV.val (.int .i64 (0)) :: AV.val (.int .i64 (0)) :: AV.val (.int .u32 (0)) :: AV.val (.int .u32 (0)) :: []) 52 :: .box b6 (mapV .u32 vIds (([] : SVT)) :: mapV .u32 (vI .u32) (([] : UP)) :: AV.ro 1 (ints .u32 (([] : List Int))) :: mapV .u32 vSW (([] : List (Int × SW))) :: mapK (vI .i64) (([] : CM)) :: mapV .u32 (vI .i64) (([] : CS)) :: AV.val (.int .u32 (0)) :: AV.val (.int .i64 (0)) :: AV.val (.int .u32 (0)) :: AV.ro 9 [] :: AV.val (.int .i64 (0)) :: AV.val (.int .u32 (0)) :: AV.val (.bool (false)) :: AV.val (.int .i64 (0)) :: AV.val (.bool (false)) :: AV.val (.bool (false)) :: AV.val (.int .i64 (0)) :: AV.val (.int .u32 (0)) :: AV.val (.bool (false)) :: AV.val (.bool (false)) :: AV.val (.bool (false)) :: AV.val (.int .i64 (0)) :: AV.val (.int .i64 (0)) :: AV.val (.int .i64 (0)) :: AV.val (.int .i64 (0)) :: AV.val (.int .u32 (0)) :: AV.val (.int .i64 (0)) :: AV.val (.bool (false)) :: AV.ro 6 [] :: AV.val (.int .i64 (0)) :: AV.val (.int .u32 (0)) :: AV.val (.bool (false)) :: AV.val (.int .i64 (0)) :: AV.val (.bool (false)) :: AV.val (.bool (false)) :: AV.val (.int .i64 (0)) :: AV.val (.int .u32 (0)) :: AV.val (.bool (false)) :: AV.val (.bool (false)) :: AV.val (.bool (false)) :: AV.val (.int .i64 (0)) :: AV.val (.int .i64 (0)) :: AV.val (.int .i64 (0)) :: AV.val (.int .i64 (0)) :: AV.val (.int .u32 (0)) :: AV.val (.int .i64 (0)) :: AV.val (.bool (false)) :: AV.ro 6 [] :: AV.val (.int .i64 (0)) :: AV.val (.int .i64 (0)) :: AV.val (.int .i64 (0)) :: AV.val (.int .i64 (0)) :: AV.val (.int .i64 (0)) :: AV.val (.int .u32 (0)) :: AV.val (.int .u32 (0)) :: []) 52 :: H⟩) (Φ := fun _ => True) ?_ ?_
      · (repeat' (first|refine svz ⟨fun b hq=>?_⟩|refine svA ⟨?_⟩|refine svu ⟨fun u=>?_⟩|(refine svG (fun hg=>?_) (fun hg=>?_)<;>try exact svx)|refine svh (fun hb=>?_) (fun hb=>?_)|refine svb (fun b=>?_)|fail))
        rw [q ()]
        exact ⟨(), trivial, lee⟩
      · rintro - -
        by_cases hz : n = 0
        · rw [if_pos hz] at hidn
          (repeat' (first|refine svz ⟨fun b hq=>?_⟩|refine svA ⟨?_⟩|refine svu ⟨fun u=>?_⟩|(refine svG (fun hg=>?_) (fun hg=>?_)<;>try exact svx)|refine svh (fun hb=>?_) (fun hb=>?_)|refine svb (fun b=>?_)|fail))
          exact ⟨(), trivial, by rw [hidn]; exact lee⟩
        · rw [if_neg hz] at hidn
          (repeat' (first|refine svz ⟨fun b hq=>?_⟩|refine svA ⟨?_⟩|refine svu ⟨fun u=>?_⟩|(refine svG (fun hg=>?_) (fun hg=>?_)<;>try exact svx)|refine svh (fun hb=>?_) (fun hb=>?_)|refine svb (fun b=>?_)|fail))
          exact ⟨(), trivial, by rw [hidn]; exact lee⟩
    rintro - -
    clear q
    (repeat' ((fail_if_success (refine drg ?_)); (first|refine svz ⟨fun b hq=>?_⟩|refine svA ⟨?_⟩|refine svu ⟨fun u=>?_⟩|(refine svG (fun hg=>?_) (fun hg=>?_)<;>try exact svx)|refine svh (fun hb=>?_) (fun hb=>?_)|refine svb (fun b=>?_)|fail)))
    rw [← hidi]
    refine S.call ?_; refine (ad _).mono ?_; rintro r h' ⟨rfl, hh⟩; subst hh
    (repeat' ((fail_if_success (refine drg ?_)); (first|refine svz ⟨fun b hq=>?_⟩|refine svA ⟨?_⟩|refine svu ⟨fun u=>?_⟩|(refine svG (fun hg=>?_) (fun hg=>?_)<;>try exact svx)|refine svh (fun hb=>?_) (fun hb=>?_)|refine svb (fun b=>?_)|fail)))
    refine S.call ?_; refine (ps2 _).mono ?_; rintro r h' ⟨rfl, hh⟩; subst hh
    (repeat' ((fail_if_success (refine drg ?_)); (first|refine svz ⟨fun b hq=>?_⟩|refine svA ⟨?_⟩|refine svu ⟨fun u=>?_⟩|(refine svG (fun hg=>?_) (fun hg=>?_)<;>try exact svx)|refine svh (fun hb=>?_) (fun hb=>?_)|refine svb (fun b=>?_)|fail)))
    rename_i b17
    revert b; intro b19
    refine W.dr (.ro (.ro (.ro (.rw (.rw (.ro (.ro (.done _)))))))) ?_
    (repeat' (first | (refine iS ?_; refine iMu ?_; refine S.mapU ?_) | refine svz ⟨fun b hq=>?_⟩|refine svT ⟨?_⟩|refine svu ⟨fun u=>?_⟩|(refine svG (fun hg=>?_) (fun hg=>?_)<;>try exact svx)|refine svh (fun hb=>?_) (fun hb=>?_)|refine svb (fun b=>?_) | ((fail_if_success (refine sva ?_)); refine sv3 ?_) | fail))
    refine W.mid (J := fun _ : Unit => ⟨154, [(16, AV.val (.int .u32 (id))), (13, .val (.pointer (some ⟨b13, 0, none⟩))), (41, AV.val (.int .i64 ((i : Int)))), (40, AV.val (.int .i64 ((l.length : Int)))), (39, .ro 6 (l.map FW.enc)), (10, .val (.pointer (some ⟨b10, 0, none⟩))), (9, .val (.pointer (some ⟨b9, 0, none⟩))), (8, .val (.pointer (some ⟨b8, 0, none⟩))), (7, AV.val (.bool (false))), (6, .val (.pointer (some ⟨b6, 0, none⟩))), (1, AV.val (.int .u8 (x))), (2, AV.val (.int .u8 (y)))], .box b13 [AV.val (.int .u8 (w.u)), AV.val (.bool (w.m)), AV.val (.int .u8 (w.c)), AV.val (.bool (w.st)), AV.val (.int .i8 (w.x)), AV.val (.int .i8 (w.y))] 102 :: .box b10 [mapV .u32 vBox (t2)] 106 :: .box b9 [mapV .u32 vIds (k2), mapV .u32 (vI .u32) (up2)] 28 :: .box b8 (mapV .u32 vIds (([] : SVT)) :: mapV .u32 (vI .u32) (([] : UP)) :: AV.ro 1 (ints .u32 (([] : List Int))) :: mapV .u32 vSW (([] : List (Int × SW))) :: mapK (vI .i64) (fsM w i M) :: mapV .u32 (vI .i64) (N) :: AV.val (.int .u32 (0)) :: AV.val (.int .i64 (0)) :: AV.val (.int .u32 (0)) :: AV.ro 9 [] :: AV.val (.int .i64 (0)) :: AV.val (.int .u32 (0)) :: AV.val (.bool (false)) :: AV.val (.int .i64 (0)) :: AV.val (.bool (false)) :: AV.val (.bool (false)) :: AV.val (.int .i64 (0)) :: AV.val (.int .u32 (0)) :: AV.val (.bool (false)) :: AV.val (.bool (false)) :: AV.val (.bool (false)) :: AV.val (.int .i64 (0)) :: AV.val (.int .i64 (0)) :: AV.val (.int .i64 (0)) :: AV.val (.int .i64 (0)) :: AV.val (.int .u32 (0)) :: AV.val (.int .i64 (0)) :: AV.val (.bool (false)) :: AV.ro 6 [] :: AV.val (.int .i64 (0)) :: AV.val (.int .u32 (0)) :: AV.val (.bool (false)) :: AV.val (.int .i64 (0)) :: AV.val (.bool (false)) :: AV.val (.bool (false)) :: AV.val (.int .i64 (0)) :: AV.val (.int .u32 (0)) :: AV.val (.bool (false)) :: AV.val (.bool (false)) :: AV.val (.bool (false)) :: AV.val (.int .i64 (0)) :: AV.val (.int .i64 (0)) :: AV.val (.int .i64 (0)) :: AV.val (.int .i64 (0)) :: AV.val (.int .u32 (0)) :: AV.val (.int .i64 (0)) :: AV.val (.bool (false)) :: AV.ro 6 [] :: AV.val (.int .i64 (0)) :: AV.val (.int .i64 (0)) :: AV.val (.int .i64 (0)) :: AV.val (.int .i64 (0)) :: AV.val (.int .i64 (0)) :: AV.val (.int .u32 (0)) :: AV.val (.int .u32 (0)) :: []) 52 :: .box b6 (mapV .u32 vIds (([] : SVT)) :: mapV .u32 (vI .u32) (([] : UP)) :: AV.ro 1 (ints .u32 (([] : List Int))) :: mapV .u32 vSW (([] : List (Int × SW))) :: mapK (vI .i64) (([] : CM)) :: mapV .u32 (vI .i64) (([] : CS)) :: AV.val (.int .u32 (0)) :: AV.val (.int .i64 (0)) :: AV.val (.int .u32 (0)) :: AV.ro 9 [] :: AV.val (.int .i64 (0)) :: AV.val (.int .u32 (0)) :: AV.val (.bool (false)) :: AV.val (.int .i64 (0)) :: AV.val (.bool (false)) :: AV.val (.bool (false)) :: AV.val (.int .i64 (0)) :: AV.val (.int .u32 (0)) :: AV.val (.bool (false)) :: AV.val (.bool (false)) :: AV.val (.bool (false)) :: AV.val (.int .i64 (0)) :: AV.val (.int .i64 (0)) :: AV.val (.int .i64 (0)) :: AV.val (.int .i64 (0)) :: AV.val (.int .u32 (0)) :: AV.val (.int .i64 (0)) :: AV.val (.bool (false)) :: AV.ro 6 [] :: AV.val (.int .i64 (0)) :: AV.val (.int .u32 (0)) :: AV.val (.bool (false)) :: AV.val (.int .i64 (0)) :: AV.val (.bool (false)) :: AV.val (.bool (false)) :: AV.val (.int .i64 (0)) :: AV.val (.int .u32 (0)) :: AV.val (.bool (false)) :: AV.val (.bool (false)) :: AV.val (.bool (false)) :: AV.val (.int .i64 (0)) :: AV.val (.int .i64 (0)) :: AV.val (.int .i64 (0)) :: AV.val (.int .i64 (0)) :: AV.val (.int .u32 (0)) :: AV.val (.int .i64 (0)) :: AV.val (.bool (false)) :: AV.ro 6 [] :: AV.val (.int .i64 (0)) :: AV.val (.int .i64 (0)) :: AV.val (.int .i64 (0)) :: AV.val (.int .i64 (0)) :: AV.val (.int .i64 (0)) :: AV.val (.int .u32 (0)) :: AV.val (.int .u32 (0)) :: []) 52 :: H⟩) (Φ := fun _ => True) ?_ ?_
    · by_cases h4 : 0 < w.c % 4
      · have cs1 := cs ⟨by omega, by omega⟩
        rw [show fsM w i M = putK M (w.c % 4, id) 3 by unfold fsM; rw [if_pos h4, hI1]]
        clear cs cst hs
        generalize putK M (w.c % 4, id) 3 = M2 at *
        (repeat' (first|refine svz ⟨fun b hq=>?_⟩|refine svA ⟨?_⟩|refine svu ⟨fun u=>?_⟩|(refine svG (fun hg=>?_) (fun hg=>?_)<;>try exact svx)|refine svh (fun hb=>?_) (fun hb=>?_)|refine svb (fun b=>?_)|fail))
        refine S.call ?_; refine (cs1 _).mono ?_; rintro r h' ⟨rfl, hh⟩; subst hh
        (repeat' (first|refine svz ⟨fun b hq=>?_⟩|refine svA ⟨?_⟩|refine svu ⟨fun u=>?_⟩|(refine svG (fun hg=>?_) (fun hg=>?_)<;>try exact svx)|refine svh (fun hb=>?_) (fun hb=>?_)|refine svb (fun b=>?_)|fail))
        refine S.store_any ?_ (hl := Nat.le_of_ble_eq_true rfl)
        (repeat' (first|refine svz ⟨fun b hq=>?_⟩|refine svA ⟨?_⟩|refine svu ⟨fun u=>?_⟩|(refine svG (fun hg=>?_) (fun hg=>?_)<;>try exact svx)|refine svh (fun hb=>?_) (fun hb=>?_)|refine svb (fun b=>?_)|fail))
        exact ⟨(), trivial, lee⟩
      · rw [show fsM w i M = M by unfold fsM; rw [if_neg h4]]
        (repeat' (first|refine svz ⟨fun b hq=>?_⟩|refine svA ⟨?_⟩|refine svu ⟨fun u=>?_⟩|(refine svG (fun hg=>?_) (fun hg=>?_)<;>try exact svx)|refine svh (fun hb=>?_) (fun hb=>?_)|refine svb (fun b=>?_)|fail))
        exact ⟨(), trivial, lee⟩
    rintro - -
    generalize fsM w i M = M2 at *
    clear ad ps2 cs
    cases hst : w.st with
    | true =>
      rw [show fsN w i N = putF N id 1 by unfold fsN; rw [if_pos hst, hI1]] at hs
      generalize putF N id 1 = N2 at *
      (repeat' (first|refine svz ⟨fun b hq=>?_⟩|refine svA ⟨?_⟩|refine svu ⟨fun u=>?_⟩|(refine svG (fun hg=>?_) (fun hg=>?_)<;>try exact svx)|refine svh (fun hb=>?_) (fun hb=>?_)|refine svb (fun b=>?_)|fail))
      refine S.call ?_; refine (cst _).mono ?_; rintro r h' ⟨rfl, hh⟩; subst hh
      (repeat' (first|refine svz ⟨fun b hq=>?_⟩|refine svA ⟨?_⟩|refine svu ⟨fun u=>?_⟩|(refine svG (fun hg=>?_) (fun hg=>?_)<;>try exact svx)|refine svh (fun hb=>?_) (fun hb=>?_)|refine svb (fun b=>?_)|fail))
      refine S.store_any ?_ (hl := Nat.le_of_ble_eq_true rfl)
      (repeat' (first|refine svz ⟨fun b hq=>?_⟩|refine svA ⟨?_⟩|refine svu ⟨fun u=>?_⟩|(refine svG (fun hg=>?_) (fun hg=>?_)<;>try exact svx)|refine svh (fun hb=>?_) (fun hb=>?_)|refine svb (fun b=>?_)|fail))
      exact ⟨i + 1, hlt, by rw [hs]; exact lee, by omega⟩
    | false =>
      rw [show fsN w i N = N by unfold fsN; rw [hst, if_neg (by decide)]] at hs
      (repeat' (first|refine svz ⟨fun b hq=>?_⟩|refine svA ⟨?_⟩|refine svu ⟨fun u=>?_⟩|(refine svG (fun hg=>?_) (fun hg=>?_)<;>try exact svx)|refine svh (fun hb=>?_) (fun hb=>?_)|refine svb (fun b=>?_)|fail))
      exact ⟨i + 1, hlt, by rw [hs]; exact lee, by omega⟩
  · have e : i = l.length := by omega
    subst e
    have kw := ok.kw
    have Q := kw.pw (by omega)
    have hbl := bel_len Q.w ((fsF l l.length).up.length + 1)
    have hul := kw.ul
    have vo := fun h => vof_c (fsF l l.length).k (fsF l l.length).up (fsF l l.length).t Q h (by omega)
    have ovk := Q.vok
    have hol : (orF (fsF l l.length).k (fsF l l.length).up (fsF l l.length).t).length ≤ 1000 := by
      have := List.length_filter_le (fun id => (lkF (vwF (fsF l l.length).k (fsF l l.length).up (fsF l l.length).t) id).isSome) (belF (ofS (fsF l l.length).k) ((fsF l l.length).up.length + 1) 1)
      unfold orF; omega
    have va := fun h => vat_c (orF (fsF l l.length).k (fsF l l.length).up (fsF l l.length).t) (vwF (fsF l l.length).k (fsF l l.length).up (fsF l l.length).t) (x % 12) (y % 12) h ovk (by omega)
    have ee : encV (fsF l l.length).k (fsF l l.length).up (fsF l l.length).t = encW (orF (fsF l l.length).k (fsF l l.length).up (fsF l l.length).t) (vwF (fsF l l.length).k (fsF l l.length).up (fsF l l.length).t) := rfl
    rw [ee] at vo
    unfold stZ
    clear ok kw Q hbl hul ovk hol ee
    generalize orF (fsF l l.length).k (fsF l l.length).up (fsF l l.length).t = O at *
    generalize vwF (fsF l l.length).k (fsF l l.length).up (fsF l l.length).t = V at *
    obtain ⟨un, ug, hat⟩ : ∃ un ug, atV (atF O V (x % 12) (y % 12)) = .tup [AV.val (.int .u32 (un)), AV.val (.bool (ug))] ∧ (atF O V (x % 12) (y % 12)).getD 0 = un := by
      cases atF O V (x % 12) (y % 12) with
      | none => exact ⟨0, false, rfl, rfl⟩
      | some i => exact ⟨i, true, rfl, rfl⟩
    rw [hat.1] at va
    rw [hat.2]
    clear hat
    generalize fsF l l.length = f at *
    obtain ⟨k, up, t, M, N⟩ := f
    dsimp only at *
    unfold encT encP encW at *
    (repeat' ((fail_if_success (refine drg ?_)); (first|refine svz ⟨fun b hq=>?_⟩|refine svA ⟨?_⟩|refine svu ⟨fun u=>?_⟩|(refine svG (fun hg=>?_) (fun hg=>?_)<;>try exact svx)|refine svh (fun hb=>?_) (fun hb=>?_)|refine svb (fun b=>?_)|fail)))
    refine W.dr (.ro (.ro (.rw (.ro (.done _))))) ?_
    (repeat' (first|refine svz ⟨fun b hq=>?_⟩|refine svA ⟨?_⟩|refine svu ⟨fun u=>?_⟩|(refine svG (fun hg=>?_) (fun hg=>?_)<;>try exact svx)|refine svh (fun hb=>?_) (fun hb=>?_)|refine svb (fun b=>?_)|fail))
    refine R2.C (vo _) ?_
    (repeat' (first|refine svz ⟨fun b hq=>?_⟩|refine svA ⟨?_⟩|refine svu ⟨fun u=>?_⟩|(refine svG (fun hg=>?_) (fun hg=>?_)<;>try exact svx)|refine svh (fun hb=>?_) (fun hb=>?_)|refine svb (fun b=>?_)|fail))
    refine S.store_any ?_ (hl := Nat.le_of_ble_eq_true rfl)
    (repeat' (first|refine svz ⟨fun b hq=>?_⟩|refine svA ⟨?_⟩|refine svu ⟨fun u=>?_⟩|(refine svG (fun hg=>?_) (fun hg=>?_)<;>try exact svx)|refine svh (fun hb=>?_) (fun hb=>?_)|refine svb (fun b=>?_)|fail))
    refine S.store_any ?_ (hl := Nat.le_of_ble_eq_true rfl)
    (repeat' (first|refine svz ⟨fun b hq=>?_⟩|refine svA ⟨?_⟩|refine svu ⟨fun u=>?_⟩|(refine svG (fun hg=>?_) (fun hg=>?_)<;>try exact svx)|refine svh (fun hb=>?_) (fun hb=>?_)|refine svb (fun b=>?_)|fail))
    refine S.call ?_; refine (va _).mono ?_; rintro r h' ⟨rfl, hh⟩; subst hh
    (repeat' (first|refine svz ⟨fun b hq=>?_⟩|refine svA ⟨?_⟩|refine svu ⟨fun u=>?_⟩|(refine svG (fun hg=>?_) (fun hg=>?_)<;>try exact svx)|refine svh (fun hb=>?_) (fun hb=>?_)|refine svb (fun b=>?_)|fail))
    unfold RT.enc DV.z AC.z IN.z
    exact fin_r (h' := H) ⟨.inl ⟨hl8, rfl⟩, rfl⟩
end Go.Proofs.YtbknacpdcdkjiaaGreat
