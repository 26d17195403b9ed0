import Derived.Test.YtbknacpdcdkjiaaGreatF51
import Derived.Test.YtbknacpdcdkjiaaGreatF33
/- TopWays: the pointer at a place, somebody who watches. No condition. -/
namespace Go.Proofs.YtbknacpdcdkjiaaGreat
open Go Go.VM
attribute [local irreducible] PurV Pur Step RL W D ACalls Then InBlock Fini
set_option linter.unusedVariables false
set_option linter.unusedSimpArgs false
set_option maxHeartbeats 20000000
def wtM (L : List Int) : CM := L.foldl (fun M id => putK M (1, id) 96) []
theorem wtM_snoc (L : List Int) (id : Int) : wtM (L ++ [id]) = putK (wtM L) (1, id) 96 := by unfold wtM; rw [List.foldl_append]; rfl
theorem wtM_mk (L : List Int) : ∀ c id, mkF (wtM L) c id = if c = 1 ∧ id ∈ L then 96 else 0 := by
  suffices ∀ n, ∀ L : List Int, L.length = n → ∀ c id, mkF (wtM L) c id = if c = 1 ∧ id ∈ L then 96 else 0 from this _ L rfl
  intro n
  induction n with
  | zero =>
    intro L hL c id
    rw [List.length_eq_zero_iff.1 hL]; simp [wtM, mkF, lkK]
  | succ n ih =>
    intro L hL c id
    rcases List.eq_nil_or_concat L with e | ⟨L', a, e⟩
    · rw [e] at hL; cases hL
    · rw [List.concat_eq_append] at e
      subst e
      rw [List.length_append] at hL
      have h1 := ih L' (by simpa using hL) c id
      unfold mkF at h1 ⊢
      rw [wtM_snoc, lkK_put]
      by_cases q : (c, id) = (1, a)
      · rw [if_pos q]
        injection q with q1 q2
        subst q1 q2
        simp
      · rw [if_neg q, h1]
        have : (c = 1 ∧ id ∈ L' ++ [a]) ↔ (c = 1 ∧ id ∈ L') := by
          constructor
          · rintro ⟨rfl, h⟩
            refine ⟨rfl, ?_⟩
            rcases List.mem_append.1 h with h | h
            · exact h
            · rw [List.mem_singleton] at h; subst h; exact absurd rfl q
          · rintro ⟨h1, h⟩; exact ⟨h1, List.mem_append_left _ h⟩
        simp only [this]
theorem wtM_len (L : List Int) : (wtM L).length ≤ L.length ∧ ((wtM L).map (·.1)).Nodup := by
  suffices ∀ n, ∀ L : List Int, L.length = n → (wtM L).length ≤ L.length ∧ ((wtM L).map (·.1)).Nodup from this _ L rfl
  intro n
  induction n with
  | zero => intro L hL; rw [List.length_eq_zero_iff.1 hL]; simp [wtM]
  | succ n ih =>
    intro L hL
    rcases List.eq_nil_or_concat L with e | ⟨L', a, e⟩
    · rw [e] at hL; cases hL
    · rw [List.concat_eq_append] at e
      subst e
      rw [List.length_append] at hL
      have h1 := ih L' (by simpa using hL)
      rw [wtM_snoc]
      have := putK_len (wtM L') (1, a) 96
      exact ⟨by simp; omega, putK_nodup _ _ h1.2⟩
theorem wtM_who (L : List Int) (id m : Int) (hm : bitsI .and .i64 96 (msk m) ≠ 0) (h0 : bitsI .and .i64 0 (msk m) = 0) (hid : id ∈ L) : whoF (wtM L) id m = [1] := by
  have : whoF (wtM L) id m = ((List.range 8).map fun i : Nat => (i : Int) + 1).filter fun c => decide (c = 1) := by
    unfold whoF
    refine List.filter_congr fun c _ => decide_eq_decide.2 ?_
    rw [wtM_mk]
    by_cases h : c = 1
    · rw [if_pos ⟨h, hid⟩]; exact ⟨fun _ => h, fun _ => hm⟩
    · rw [if_neg (fun q => h q.1)]; exact ⟨fun q => absurd h0 q, fun q => absurd q h⟩
  rw [this]; decide
theorem wtM_no (L : List Int) (id m : Int) (hm : bitsI .and .i64 96 (msk m) = 0) (h0 : bitsI .and .i64 0 (msk m) = 0) : whoF (wtM L) id m = [] := by
  unfold whoF
  refine List.filter_eq_nil_iff.2 fun c _ => ?_
  rw [wtM_mk]
  split
  · simp [hm]
  · simp [h0]
theorem wtM_hx (L : List Int) (o id : Int) (h : o ≠ 1) : bitsI .and .i64 (bitsI .and .i64 (mkF (wtM L) o id) 96) 2052 = 0 := by
  rw [wtM_mk, if_neg (fun q => h q.1)]; decide +kernel
def wst (k : SVT) (up : UP) (O : List Int) (V : List (Int × SW)) (M : CM) (n : Int) : RT := ⟨k, up, O, V, M, [], 0, 0, 0, DV.z, DV.z, 3, 3, 0, 0, 0, 0, n⟩
set_option maxRecDepth 100000 in
theorem wstate_c (k : SVT) (up : UP) (O : List Int) (V : List (Int × SW)) (n : Int) (H : Heap) (w : TW k up) (hul : up.length ≤ 100) (hid : IdOk up) (vo : VOk V) (hol : O.length ≤ 1000) (hat : atF O V 3 3 = some n) (hn : hasT up n = true) :
    ACalls Tryz.prog 14 [encT k up, encW O V] H (fun r h' => r = .tup [(wst k up O V (wtM (belF (ofS k) (up.length + 1) 1)) n).enc, AV.val (.bool (true))] ∧ h' = H) := by
  have va := fun h => vat_c O V 3 3 h vo (by omega)
  rw [hat] at va
  have hbl := bel_len w (up.length + 1)
  have bl := fun h => below_c k up (rkF up) (fun p c hc => w.rank hc) (fun p => by have := w.ofl p; omega) (up.length + 1) 1 h (by unfold hasT; simp) (by unfold rkF; omega) (by omega)
  have hbi : ∀ x ∈ belF (ofS k) (up.length + 1) 1, 1 ≤ x ∧ x ≤ 4294967295 := fun x hx => hid x (bel_has w _ _ _ (by unfold hasT; simp) hx)
  have hn1 := hid n hn
  unfold atV at va
  unfold wst DV.z AC.z IN.z RT.enc
  dsimp only
  generalize belF (ofS k) (up.length + 1) 1 = BL at *
  have cs := fun (i : Nat) (id : Int) h (hi : i ≤ BL.length) (h1 : 1 ≤ id) => cset_c (wtM (BL.take i)) ([] : CS) 1 id 96 h (wtM_len _).2 (by simp) (by have := (wtM_len (BL.take i)).1; rw [List.length_take] at this; omega) (by simp) (by omega) (by omega) (by decide) (fun o ho => wtM_hx _ o id ho)
  clear w hid vo hol hat hn
  unfold encT encW encC at *
  refine ACalls.intro Tryz.func14 rfl Tryz.ntmps14 Tryz.results14 (Nat.le_of_ble_eq_true rfl) ?_
  (repeat' (first|refine svz ⟨fun b hq=>?_⟩|refine svA ⟨?_⟩|refine svu ⟨fun u=>?_⟩|(refine svG (fun hg9=>?_) (fun hg9=>?_)<;>try exact svx)|refine svh (fun hb=>?_) (fun hb=>?_)|refine svb (fun b=>?_)|fail))
  rename_i b2 b3 b4
  revert b; intro b6
  refine S.call ?_; refine (va _).mono ?_; rintro r h' ⟨rfl, hh⟩; subst hh
  (repeat' (first|refine svz ⟨fun b hq=>?_⟩|refine svA ⟨?_⟩|refine svu ⟨fun u=>?_⟩|(refine svG (fun hg9=>?_) (fun hg9=>?_)<;>try exact svx)|refine svh (fun hb=>?_) (fun hb=>?_)|refine svb (fun b=>?_)|fail))
  refine S.call ?_; refine (bl _).mono ?_; rintro r h' ⟨rfl, hh⟩; subst hh
  (repeat' (first|refine svz ⟨fun b hq=>?_⟩|refine svA ⟨?_⟩|refine svu ⟨fun u=>?_⟩|(refine svG (fun hg9=>?_) (fun hg9=>?_)<;>try exact svx)|refine svh (fun hb=>?_) (fun hb=>?_)|refine svb (fun b=>?_)|fail))
  clear va bl
  refine W.loop (J := fun i : Nat => ⟨44, [(23, AV.val (.int .i64 ((i : Int)))), (22, AV.val (.int .i64 ((BL.length : Nat)))), (21, AV.ro 1 (ints .u32 (BL))), (6, .val (.pointer (some ⟨b6, 0, none⟩))), (4, .val (.pointer (some ⟨b4, 0, none⟩)))], .box b6 (mapV .u32 vIds (k) :: mapV .u32 (vI .u32) (up) :: AV.ro 1 (ints .u32 (O)) :: mapV .u32 vSW (V) :: mapK (vI .i64) ((wtM (BL.take i))) :: mapV .u32 (vI .i64) (([] : CS)) :: AV.val (.int .u32 (0)) :: AV.val (.int .i64 (0)) :: AV.val (.int .u32 (0)) :: AV.ro 9 [] :: AV.val (.int .i64 (0)) :: AV.val (.int .u32 (0)) :: AV.val (.bool (false)) :: AV.val (.int .i64 (0)) :: AV.val (.bool (false)) :: AV.val (.bool (false)) :: AV.val (.int .i64 (0)) :: AV.val (.int .u32 (0)) :: AV.val (.bool (false)) :: AV.val (.bool (false)) :: AV.val (.bool (false)) :: AV.val (.int .i64 (0)) :: AV.val (.int .i64 (0)) :: AV.val (.int .i64 (0)) :: AV.val (.int .i64 (0)) :: AV.val (.int .u32 (0)) :: AV.val (.int .i64 (0)) :: AV.val (.bool (false)) :: AV.ro 6 [] :: AV.val (.int .i64 (0)) :: AV.val (.int .u32 (0)) :: AV.val (.bool (false)) :: AV.val (.int .i64 (0)) :: AV.val (.bool (false)) :: AV.val (.bool (false)) :: AV.val (.int .i64 (0)) :: AV.val (.int .u32 (0)) :: AV.val (.bool (false)) :: AV.val (.bool (false)) :: AV.val (.bool (false)) :: AV.val (.int .i64 (0)) :: AV.val (.int .i64 (0)) :: AV.val (.int .i64 (0)) :: AV.val (.int .i64 (0)) :: AV.val (.int .u32 (0)) :: AV.val (.int .i64 (0)) :: AV.val (.bool (false)) :: AV.ro 6 [] :: AV.val (.int .i64 (3)) :: AV.val (.int .i64 (3)) :: AV.val (.int .i64 (0)) :: AV.val (.int .i64 (0)) :: AV.val (.int .i64 (0)) :: AV.val (.int .u32 (0)) :: AV.val (.int .u32 (n)) :: []) 52 :: .box b4 (mapV .u32 vIds (([] : SVT)) :: mapV .u32 (vI .u32) (([] : UP)) :: AV.ro 1 (ints .u32 (([] : List Int))) :: mapV .u32 vSW (([] : List (Int × SW))) :: mapK (vI .i64) (([] : CM)) :: mapV .u32 (vI .i64) (([] : CS)) :: AV.val (.int .u32 (0)) :: AV.val (.int .i64 (0)) :: AV.val (.int .u32 (0)) :: AV.ro 9 [] :: AV.val (.int .i64 (0)) :: AV.val (.int .u32 (0)) :: AV.val (.bool (false)) :: AV.val (.int .i64 (0)) :: AV.val (.bool (false)) :: AV.val (.bool (false)) :: AV.val (.int .i64 (0)) :: AV.val (.int .u32 (0)) :: AV.val (.bool (false)) :: AV.val (.bool (false)) :: AV.val (.bool (false)) :: AV.val (.int .i64 (0)) :: AV.val (.int .i64 (0)) :: AV.val (.int .i64 (0)) :: AV.val (.int .i64 (0)) :: AV.val (.int .u32 (0)) :: AV.val (.int .i64 (0)) :: AV.val (.bool (false)) :: AV.ro 6 [] :: AV.val (.int .i64 (0)) :: AV.val (.int .u32 (0)) :: AV.val (.bool (false)) :: AV.val (.int .i64 (0)) :: AV.val (.bool (false)) :: AV.val (.bool (false)) :: AV.val (.int .i64 (0)) :: AV.val (.int .u32 (0)) :: AV.val (.bool (false)) :: AV.val (.bool (false)) :: AV.val (.bool (false)) :: AV.val (.int .i64 (0)) :: AV.val (.int .i64 (0)) :: AV.val (.int .i64 (0)) :: AV.val (.int .i64 (0)) :: AV.val (.int .u32 (0)) :: AV.val (.int .i64 (0)) :: AV.val (.bool (false)) :: AV.ro 6 [] :: AV.val (.int .i64 (0)) :: AV.val (.int .i64 (0)) :: AV.val (.int .i64 (0)) :: AV.val (.int .i64 (0)) :: AV.val (.int .i64 (0)) :: AV.val (.int .u32 (0)) :: AV.val (.int .u32 (0)) :: []) 52 :: .box b3 [AV.ro 1 (ints .u32 (O)), mapV .u32 vSW V] 32 :: .box b2 [mapV .u32 vIds k, mapV .u32 (vI .u32) up] 28 :: H⟩) (Φ := fun i => i ≤ BL.length) (μ := fun i => BL.length - i) 0 lee (Nat.zero_le _) ?_
  rintro i hi
  dsimp only
  rcases Nat.lt_or_ge i BL.length with hlt | hge
  · obtain ⟨a, ha⟩ : ∃ a, BL[i]? = some a := ⟨_, List.getElem?_eq_getElem hlt⟩
    have hb := hbi a (List.mem_of_getElem? ha)
    have cs1 := fun h => cs i a h hi hb.1
    have e1 : wtM (BL.take (i + 1)) = putK (wtM (BL.take i)) (1, a) 96 := by rw [List.take_add_one, ha]; exact wtM_snoc _ _
    clear cs hbi
    generalize putK (wtM (BL.take i)) (1, a) 96 = M2 at *
    generalize wtM (BL.take i) = M1 at *
    (repeat' (first|refine svz ⟨fun b hq=>?_⟩|refine svA ⟨?_⟩|refine svu ⟨fun u=>?_⟩|(refine svG (fun hg9=>?_) (fun hg9=>?_)<;>try exact svx)|refine svh (fun hb=>?_) (fun hb=>?_)|refine svb (fun b=>?_)|fail))
    refine S.call ?_; refine (cs1 _).mono ?_; rintro r h' ⟨rfl, hh⟩; subst hh
    (repeat' (first|refine svz ⟨fun b hq=>?_⟩|refine svA ⟨?_⟩|refine svu ⟨fun u=>?_⟩|(refine svG (fun hg9=>?_) (fun hg9=>?_)<;>try exact svx)|refine svh (fun hb=>?_) (fun hb=>?_)|refine svb (fun b=>?_)|fail))
    refine S.store_any ?_ (hl := Nat.le_of_ble_eq_true rfl)
    (repeat' (first|refine svz ⟨fun b hq=>?_⟩|refine svA ⟨?_⟩|refine svu ⟨fun u=>?_⟩|(refine svG (fun hg9=>?_) (fun hg9=>?_)<;>try exact svx)|refine svh (fun hb=>?_) (fun hb=>?_)|refine svb (fun b=>?_)|fail))
    exact ⟨i + 1, hlt, by rw [e1]; exact lee, by omega⟩
  · rw [List.take_of_length_le hge]
    clear cs
    generalize wtM BL = M1 at *
    (repeat' (first|refine svz ⟨fun b hq=>?_⟩|refine svA ⟨?_⟩|refine svu ⟨fun u=>?_⟩|(refine svG (fun hg9=>?_) (fun hg9=>?_)<;>try exact svx)|refine svh (fun hb=>?_) (fun hb=>?_)|refine svb (fun b=>?_)|fail))
    refine W.dr (.ro (.rw (.done _))) ?_
    (repeat' (first|refine svz ⟨fun b hq=>?_⟩|refine svA ⟨?_⟩|refine svu ⟨fun u=>?_⟩|(refine svG (fun hg9=>?_) (fun hg9=>?_)<;>try exact svx)|refine svh (fun hb=>?_) (fun hb=>?_)|refine svb (fun b=>?_)|fail))
    refine fin_r (h' := H) ⟨?_, rfl⟩
    rw [show decide (n ≠ 0) = true from decide_eq_true (by omega)]
    rfl
end Go.Proofs.YtbknacpdcdkjiaaGreat

/- Plain: what the views of TopWays are. No condition. -/
namespace Go.Proofs.YtbknacpdcdkjiaaGreat
open Go Go.VM
set_option linter.unusedVariables false
set_option linter.unusedSimpArgs false
set_option linter.unusedSectionVars false
set_option maxHeartbeats 4000000
theorem bel_mono {K : Int → List Int} : ∀ (f : Nat) (id x : Int), x ∈ belF K f id → x ∈ belF K (f + 1) id
  | 0, _, _, h => by cases h
  | f + 1, id, x, h => by
    unfold belF at h
    rw [belF]
    rcases List.mem_cons.1 h with rfl | h
    · exact List.mem_cons_self ..
    · obtain ⟨c, h1, h2⟩ := List.mem_flatMap.1 h
      exact List.mem_cons_of_mem _ (List.mem_flatMap.2 ⟨c, h1, bel_mono f c x h2⟩)
theorem bel_kid {K : Int → List Int} : ∀ (f : Nat) (id p c : Int), p ∈ belF K f id → c ∈ K p → c ∈ belF K (f + 1) id
  | 0, _, _, _, h, _ => by cases h
  | f + 1, id, p, c, h, hc => by
    unfold belF at h
    rw [belF]
    rcases List.mem_cons.1 h with rfl | h
    · exact List.mem_cons_of_mem _ (List.mem_flatMap.2 ⟨c, hc, by rw [belF]; exact List.mem_cons_self ..⟩)
    · obtain ⟨c', h1, h2⟩ := List.mem_flatMap.1 h
      exact List.mem_cons_of_mem _ (List.mem_flatMap.2 ⟨c', h1, bel_kid f c' p c h2 hc⟩)
theorem bel_all {k : SVT} {up : UP} (w : TW k up) {id : Int} (h : hasT up id = true) : id ∈ belF (ofS k) (up.length + 1) 1 := by
  have key : ∀ {id : Int} {R : List Int}, Pth up id R → id ∈ belF (ofS k) (R.length + 1) 1 := fun h => by
    induction h with
    | root => rw [belF]; exact List.mem_cons_self ..
    | @up id p R h1 h2 r ih => exact bel_kid _ _ p id ih ((w.kid p id).2 h2)
  obtain ⟨h1, h2⟩ := w.pthR h
  have h3 := key h1
  have mono : ∀ m n, n ≤ m → ∀ x, x ∈ belF (ofS k) n 1 → x ∈ belF (ofS k) m 1 := fun m n hnm x hx => by
    induction m with
    | zero => rw [Nat.le_zero.1 hnm] at hx; exact hx
    | succ m ih =>
      rcases Nat.lt_or_ge m n with q | q
      · rw [show m + 1 = n by omega]; exact hx
      · exact bel_mono m 1 x (ih q)
  exact mono _ _ (by omega) id h3
theorem KW.ids {n : Nat} {k : SVT} {up : UP} {t : PW} (m : KW n k up t) (hn : n ≤ 1000) : IdOk up := fun id h => by
  obtain ⟨j, h1, rfl⟩ := m.has id h
  exact idT_bd (by omega)
theorem orF_of {k : SVT} {up : UP} {t : PW} {id : Int} (h1 : (lkF (vwF k up t) id).isSome = true) (h2 : id ∈ belF (ofS k) (up.length + 1) 1) : id ∈ orF k up t := List.mem_filter.2 ⟨h2, h1⟩
theorem KW.vin {n : Nat} {k : SVT} {up : UP} {t : PW} (m : KW n k up t) (hn : n ≤ 60) {wd hg : Nat} (hw : 1 ≤ wd ∧ wd ≤ 16) (hh : 1 ≤ hg ∧ hg ≤ 16) (hr : lkF t 1 = some (rootB wd hg)) : VIn wd hg up (orF k up t) (vwF k up t) := by
  have Q := m.pw hn
  have hbl := bel_len Q.w (up.length + 1)
  have hul := Q.ul
  have ok := Q.ok 1 _ hr
  have hb : bxF t 1 = rootB wd hg := by unfold bxF; rw [hr]; rfl
  have har : ∀ x y, hasR (areaB (rootB wd hg)) x y = decide ((0 ≤ x ∧ x < (wd : Int)) ∧ 0 ≤ y ∧ y < (hg : Int)) := fun x y => by
    rw [ok.area_has]
    show ((!false || hasR [] x y) && decide ((0 ≤ x ∧ x < (wd : Int)) ∧ 0 ≤ y ∧ y < (hg : Int))) = _
    simp
  refine ⟨by omega, by omega, Q.vok, ?_, fun id x y h => ?_, fun x y h => ?_⟩
  · have h2 := List.length_filter_le (fun id => (lkF (vwF k up t) id).isSome) (belF (ofS k) (up.length + 1) 1)
    unfold orF; omega
  · unfold clF at h
    cases e : lkF (vwF k up t) id with
    | none => rw [e] at h; cases h
    | some s =>
      rw [e] at h
      dsimp only at h
      have hc : Can (areaB (bxF t 1)) := Q.hp.bp.can
      cases ha : hasR (areaB (bxF t 1)) x y with
      | true =>
        rw [hb, har] at ha
        simpa using ha
      | false =>
        have := hand_off (bx := t) (K := ofS k) (ox := oX up t) (oy := oY up t) (x := x) (y := y) (up.length + 1) 1 _ _ hc hc ha (id, s) (lkF_mem e)
        rw [h] at this; cases this
  · obtain ⟨_, h1, s, h2, h3⟩ := Q.onP hr h.1 h.2
    have hbm := top_bel (bx := t) (ox := oX up t) (oy := oY up t) (x := x) (y := y) Q.w (up.length + 1) 1 (by unfold rkF; omega)
    have hlo : lookF k up t x y ∈ orF k up t := orF_of (by rw [h2]; rfl) hbm
    refine ⟨lookF k up t x y, ?_, bel_has Q.w _ _ _ Q.has1 hbm⟩
    cases e : atF (orF k up t) (vwF k up t) x y with
    | none =>
      unfold atF at e
      have := List.find?_eq_none.1 e _ hlo
      unfold clF at this
      rw [h2] at this
      exact absurd h3 this
    | some id =>
      unfold atF at e
      have g1 := List.find?_some e
      unfold clF at g1
      cases e2 : lkF (vwF k up t) id with
      | none => rw [e2] at g1; cases g1
      | some s' =>
        rw [e2] at g1
        rw [h1 id s' e2 g1]
theorem gsF_root (l : List WN) : ∀ i, lkF (gsF l i).p 1 = some (rootB 12 10) ∧ lkF (gsF l i).q 1 = some (rootB 12 10)
  | 0 => ⟨rfl, rfl⟩
  | i + 1 => by
    have ih := gsF_root l i
    show lkF (match l[i]? with | some w => gsS (gsF l i) i w | none => gsF l i).p 1 = _ ∧ lkF (match l[i]? with | some w => gsS (gsF l i) i w | none => gsF l i).q 1 = _
    cases l[i]? with
    | none => exact ih
    | some w =>
      have h1 : (1 : Int) ≠ idT (i + 1) := Ne.symm (idT_0 (by omega))
      unfold gsS
      dsimp only
      rw [lk_put_ne _ _ h1, lk_put_ne _ _ h1]
      exact ih
structure WI2 (k : SVT) (up : UP) (i : Nat) (s : RT) : Prop where
  inv : WInv 12 10 i s
  k : s.k = k
  up : s.up = up
theorem wst_inv {n : Nat} {k : SVT} {up : UP} {t : PW} (m : KW n k up t) (hn : n ≤ 60) {O : List Int} {V : List (Int × SW)} (v : VIn 12 10 up O V) {w : Int} (hw : hasT up w = true) : WI2 k up 0 (wst k up O V (wtM (belF (ofS k) (up.length + 1) 1)) w) := by
  have Q := m.pw hn
  have hbel : ∀ id, hasT up id = true → id ∈ belF (ofS k) (up.length + 1) 1 := fun id h => bel_all Q.w h
  refine ⟨⟨⟨Q.w, by show up.length ≤ 1000; have := Q.ul; omega, v.vo, v.ol⟩, m.ids (by omega), v, hw, ⟨⟨by show (0 : Int) ≤ 3; omega, by show (3 : Int) < 12; omega⟩, by show (0 : Int) ≤ 3; omega, by show (3 : Int) < 10; omega⟩, rfl, rfl, rfl, rfl, rfl, rfl, rfl, rfl, by show (0 : Int) ≤ 0 ∧ (0 : Int) ≤ 4294967295; omega, by show (0 : Int) ≤ 0 ∧ (0 : Int) ≤ _; omega, by show (0 : Int) ≤ 0 ∧ (0 : Int) ≤ _; omega, fun id => ?_, fun id h => ⟨?_, ?_⟩⟩, rfl, rfl⟩
  · exact wtM_no _ id 16 (by decide +kernel) (by decide +kernel)
  · exact wtM_who _ id 32 (by decide +kernel) (by decide +kernel) (hbel id h)
  · exact wtM_who _ id 64 (by decide +kernel) (by decide +kernel) (hbel id h)
def ToldOk (TT : List AV) (ST : List CS3) : Prop := TT.length = ST.length ∧ ∀ (j : Nat) id en de, ST[j]? = some (id, en, de) → ∃ NL : List Int, TT[j]? = some (.agg [AV.val (.int .i64 (1)), AV.val (.int .i64 (2)), AV.val (.int .i64 ((if en = true then 6 else 7))), AV.val (.int .i64 (0)), .ro 1 (ints .i64 (NL)), .val (.string ⟨#[]⟩), .val (.slice none 0 0)]) ∧ NL.length = 8 ∧ NL[0]? = some id ∧ NL[1]? = some de
theorem told_ok {s : RT} (w : TW s.k s.up) (hw : ∀ id, hasT s.up id = true → whoF s.M id 32 = [1] ∧ whoF s.M id 64 = [1]) {n : Int} (hu : hasT s.up s.un = true) (hn : hasT s.up n = true) : ToldOk ((crsF s n).map SD.enc) (crossF s.up s.un n) := by
  rw [crs_one w hw hu hn]
  refine ⟨by rw [List.length_map, List.length_map], fun j id en de h => ⟨_, by rw [List.getElem?_map, List.getElem?_map, h]; rfl, rfl, rfl, rfl⟩⟩
end Go.Proofs.YtbknacpdcdkjiaaGreat
