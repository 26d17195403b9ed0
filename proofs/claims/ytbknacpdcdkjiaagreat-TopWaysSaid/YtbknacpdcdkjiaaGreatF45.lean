/- Whom the pointer leaves and enters. No condition. -/
import Derived.Test.YtbknacpdcdkjiaaGreatF44
import Derived.Test.YtbknacpdcdkjiaaGreatF42
namespace Go.Proofs.YtbknacpdcdkjiaaGreat
open Go Go.VM
attribute [local irreducible] PurV Pur Step RL W D ACalls Then InBlock Fini
set_option linter.unusedVariables false
set_option linter.unusedSimpArgs false
set_option maxHeartbeats 20000000
def RT.ud (s : RT) (n : Int) : RT := { s with un := n }
def orgF (V : List (Int × SW)) (id : Int) : Int × Int := match lkF V id with
  | some t => (t.x, t.y)
  | none => (0, 0)
def crsC (s : RT) (st : CS3) : List SD := (whoF s.M st.1 (if st.2.1 then 32 else 64)).map fun c => ⟨c, if st.2.1 then 6 else 7, [st.1, st.2.2, lessF s.x (orgF s.V st.1).1, lessF s.y (orgF s.V st.1).2, s.x, s.y, stF s, s.nw]⟩
def crsF (s : RT) (n : Int) : List SD := (crossF s.up s.un n).flatMap (crsC s)
theorem crossF_len {k : SVT} {up : UP} (w : TW k up) (hl : up.length ≤ 1000) (a c : Int) : (crossF up a c).length ≤ 3000 := by
  have h1 := pathA_len w a
  have h2 := pathA_len w c
  have h3 := fun x => aboveF_len (pathA up a) x
  have h4 := fun x => aboveF_len (pathA up c) x
  unfold crossF
  split
  · simp
  · split
    · simp
    · rename_i m _
      split
      · simp only [List.length_append, List.length_cons, List.length_map, List.length_reverse, List.length_nil]; have := h4 a; omega
      · split
        · simp only [List.length_append, List.length_cons, List.length_map, List.length_reverse, List.length_nil]; have := h3 c; omega
        · simp only [List.length_append, List.length_cons, List.length_map, List.length_reverse, List.length_nil]; have := h3 m; have := h4 m; omega
theorem flatC_snoc {g : CS3 → List SD} {L : List CS3} {i : Nat} {a : CS3} (h : L[i]? = some a) : (L.take (i + 1)).flatMap g = (L.take i).flatMap g ++ g a := by
  rw [List.take_add_one, h, Option.toList_some, List.flatMap_append]; simp
theorem crs_len (s : RT) : ∀ L : List CS3, (L.flatMap (crsC s)).length ≤ 8 * L.length
  | [] => Nat.le_refl _
  | a :: L => by
    have := crs_len s L
    have h2 : (crsC s a).length ≤ 8 := by unfold crsC; rw [List.length_map]; exact whoF_len _ _ _
    rw [List.flatMap_cons, List.length_append, List.length_cons]; omega
set_option maxRecDepth 100000 in
theorem crossings_c (b0 : Nat) (v : Value) (s : RT) (n : Int) (L : List SD) (H : Heap) (ok : s.Ok) (hid : IdOk s.up) (hnw : 0 ≤ s.nw ∧ s.nw ≤ 4294967295) (hu : hasT s.up s.un = true) (hn : hasT s.up n = true) (ha : atF s.o s.V s.x s.y = some n) (hl : L.length ≤ 1000000) :
    ACalls Tryz.prog 48 [.val (.pointer (some ⟨b0, 0, none⟩))] (.box b0 (runC s (.val (v))) 135 :: .own (v) 7 ((L).map SD.enc) 66 :: H) (fun r h' => ∃ v', r = .tup [] ∧ h' = .box b0 (runC (s.ud n) (.val v')) 135 :: .own v' 7 ((L ++ crsF s n).map SD.enc) 66 :: H) := by
  have at1 := fun h => vat_c s.o s.V s.x s.y h ok.vo (by have := ok.ol; omega)
  have cp := fun h => cpath_c ok.tw ok.ul hid.no0 s.un n hu hn h
  have hcl := crossF_len ok.tw ok.ul s.un n
  have oc := fun id h => vorigN_c s.o s.V id h
  have ob : ∀ id, origV (lkF s.V id) = .tup [.agg [AV.val (.int .i64 ((orgF s.V id).1)), AV.val (.int .i64 ((orgF s.V id).2))], AV.val (.bool ((lkF s.V id).isSome))] ∧ (-1000000 ≤ (orgF s.V id).1 ∧ (orgF s.V id).1 ≤ 1000000) ∧ -1000000 ≤ (orgF s.V id).2 ∧ (orgF s.V id).2 ≤ 1000000 := fun id => by
    unfold orgF
    cases e : lkF s.V id with
    | none => exact ⟨rfl, by dsimp only; omega, by dsimp only; omega⟩
    | some t => have := ok.vo id t e; exact ⟨rfl, by dsimp only; omega, by dsimp only; omega⟩
  have wc := fun id m h => who_c s.M s.N id m h
  have lx := fun id h => less_c s.x (orgF s.V id).1 h (ob id).2.1
  have ly := fun id h => less_c s.y (orgF s.V id).2 h (ob id).2.2
  have stc := fun h => state_c s h
  have sc := fun v L code cl n hl hn H => say_c b0 v s code cl n L H hl hn
  have hcs := crs_len s
  rw [ha] at at1
  unfold crsF atV at *
  have hids := fun st h => hid _ (crossF_has ok.tw hu hn st h)
  generalize hS : crossF s.up s.un n = ST at *
  have fs := fun i a (h : ST[i]? = some a) => flatC_snoc (g := crsC s) h
  unfold encW encT encC RT.enc runC at *
  refine ACalls.intro Tryz.func48 rfl Tryz.ntmps48 Tryz.results48 (Nat.le_of_ble_eq_true rfl) ?_
  clear hid hu hn ha ok hS
  obtain ⟨SL, hSL, hsl, hsa⟩ : ∃ SL : List AV, ST.map csE = SL ∧ SL.length = ST.length ∧ ∀ (i : Nat) id en de, ST[i]? = some (id, en, de) → SL[i]? = some (.agg [AV.val (.int .u32 (id)), AV.val (.bool (en)), AV.val (.int .i64 (de))]) := ⟨_, rfl, List.length_map _, fun i id en de h => by rw [List.getElem?_map, h]; rfl⟩
  rw [hSL] at cp
  clear hSL
  (repeat' (first|refine svz ⟨fun b hq=>?_⟩|refine svA ⟨?_⟩|refine svu ⟨fun u=>?_⟩|(refine svG (fun hg=>?_) (fun hg=>?_)<;>try exact svx)|refine svh (fun hb=>?_) (fun hb=>?_)|refine svb (fun b=>?_)|fail))
  refine R2.C (at1 _) ?_
  (repeat' (first|refine svz ⟨fun b hq=>?_⟩|refine svA ⟨?_⟩|refine svu ⟨fun u=>?_⟩|(refine svG (fun hg=>?_) (fun hg=>?_)<;>try exact svx)|refine svh (fun hb=>?_) (fun hb=>?_)|refine svb (fun b=>?_)|fail))
  refine R2.C (cp _) ?_
  (repeat' (first|refine svz ⟨fun b hq=>?_⟩|refine svA ⟨?_⟩|refine svu ⟨fun u=>?_⟩|(refine svG (fun hg=>?_) (fun hg=>?_)<;>try exact svx)|refine svh (fun hb=>?_) (fun hb=>?_)|refine svb (fun b=>?_)|fail))
  clear at1 cp
  refine W.loop (J := fun z : Nat × Value => ⟨120, [(42, AV.val (.int .i64 ((z.1 : Nat)))), (41, AV.val (.int .i64 ((SL.length : Nat)))), (40, .ro 3 SL), (2, AV.val (.int .u32 (n))), (0, .val (.pointer (some ⟨b0, 0, none⟩)))], .box b0 (mapV .u32 vIds s.k :: mapV .u32 (vI .u32) s.up :: AV.ro 1 (ints .u32 (s.o)) :: mapV .u32 vSW s.V :: mapK (vI .i64) s.M :: mapV .u32 (vI .i64) s.N :: AV.val (.int .u32 (s.fw)) :: AV.val (.int .i64 (s.fr)) :: AV.val (.int .u32 (s.ft)) :: AV.ro 9 [] :: AV.val (.int .i64 ((s.p).a.cl)) :: AV.val (.int .u32 ((s.p).a.w)) :: AV.val (.bool ((s.p).a.ow)) :: AV.val (.int .i64 ((s.p).a.mask)) :: AV.val (.bool ((s.p).a.au)) :: AV.val (.bool ((s.p).a.pa)) :: AV.val (.int .i64 ((s.p).a.code)) :: AV.val (.int .u32 ((s.p).a.time)) :: AV.val (.bool ((s.p).g)) :: AV.val (.bool ((s.p).f)) :: AV.val (.bool ((s.p).s)) :: AV.val (.int .i64 ((s.p).held.k)) :: AV.val (.int .i64 ((s.p).held.c)) :: AV.val (.int .i64 ((s.p).held.x)) :: AV.val (.int .i64 ((s.p).held.y)) :: AV.val (.int .u32 ((s.p).held.t)) :: AV.val (.int .i64 ((s.p).held.n)) :: AV.val (.bool ((s.p).hs)) :: AV.ro 6 ((s.p).ws.map IN.enc) :: AV.val (.int .i64 ((s.q).a.cl)) :: AV.val (.int .u32 ((s.q).a.w)) :: AV.val (.bool ((s.q).a.ow)) :: AV.val (.int .i64 ((s.q).a.mask)) :: AV.val (.bool ((s.q).a.au)) :: AV.val (.bool ((s.q).a.pa)) :: AV.val (.int .i64 ((s.q).a.code)) :: AV.val (.int .u32 ((s.q).a.time)) :: AV.val (.bool ((s.q).g)) :: AV.val (.bool ((s.q).f)) :: AV.val (.bool ((s.q).s)) :: AV.val (.int .i64 ((s.q).held.k)) :: AV.val (.int .i64 ((s.q).held.c)) :: AV.val (.int .i64 ((s.q).held.x)) :: AV.val (.int .i64 ((s.q).held.y)) :: AV.val (.int .u32 ((s.q).held.t)) :: AV.val (.int .i64 ((s.q).held.n)) :: AV.val (.bool ((s.q).hs)) :: AV.ro 6 ((s.q).ws.map IN.enc) :: AV.val (.int .i64 (s.x)) :: AV.val (.int .i64 (s.y)) :: AV.val (.int .i64 (s.bt)) :: AV.val (.int .i64 (s.md)) :: AV.val (.int .i64 (s.ct)) :: AV.val (.int .u32 (s.nw)) :: AV.val (.int .u32 (s.un)) :: .val z.2 :: []) 135 :: .own z.2 7 ((L ++ (ST.take z.1).flatMap (crsC s)).map SD.enc) 66 :: H⟩)
    (Φ := fun z => z.1 ≤ ST.length) (μ := fun z => ST.length - z.1) (0, v) (by simp only [List.take_zero, List.flatMap_nil, List.append_nil]; exact lee) (Nat.zero_le _) ?_
  rintro z hi
  obtain ⟨i, v1⟩ := z
  dsimp only at hi ⊢
  rcases Nat.lt_or_ge i ST.length with hlt | hge
  · obtain ⟨⟨id, en, de⟩, hst⟩ : ∃ st, ST[i]? = some st := ⟨_, List.getElem?_eq_getElem hlt⟩
    have fs1 := fs i _ hst
    have hid := hids _ (List.mem_of_getElem? hst)
    dsimp only at hid
    have hat := hsa i id en de hst
    have hll : (L ++ (ST.take i).flatMap (crsC s)).length ≤ 2000000 := by
      have := hcs (ST.take i)
      rw [List.length_take] at this
      rw [List.length_append]; omega
    have obi := ob id
    have oc1 := fun h => oc id h
    rw [obi.1] at oc1
    have lx1 := fun h => lx id h
    have ly1 := fun h => ly id h
    have wl := fun m => whoF_len s.M id m
    have hcs1 : crsC s (id, en, de) = (whoF s.M id (if en then 32 else 64)).map fun c => ⟨c, if en then 6 else 7, [id, de, lessF s.x (orgF s.V id).1, lessF s.y (orgF s.V id).2, s.x, s.y, stF s, s.nw]⟩ := rfl
    have fs2 : L ++ (ST.take (i + 1)).flatMap (crsC s) = (L ++ (ST.take i).flatMap (crsC s)) ++ ((whoF s.M id (if en then 32 else 64)).map fun c => ⟨c, if en then 6 else 7, [id, de, lessF s.x (orgF s.V id).1, lessF s.y (orgF s.V id).2, s.x, s.y, stF s, s.nw]⟩) := by rw [fs1, hcs1, List.append_assoc]
    generalize hL1 : L ++ (ST.take i).flatMap (crsC s) = L1 at *
    clear fs1 hcs1 fs hcs hst hids oc lx ly ob obi hL1 hsa
    generalize hX : lessF s.x (orgF s.V id).1 = X at *
    generalize hY : lessF s.y (orgF s.V id).2 = Y at *
    generalize hSf : stF s = sf at *
    generalize (orgF s.V id).1 = ox at *
    generalize (orgF s.V id).2 = oy at *
    cases en with
    | true =>
      simp only [↓reduceIte] at fs2
      have wc1 := fun h => wc id 32 h
      have wl1 := wl 32
      clear wc wl
      generalize whoF s.M id 32 = cl at *
      (repeat' (first|refine svz ⟨fun b hq=>?_⟩|refine svA ⟨?_⟩|refine svu ⟨fun u=>?_⟩|(refine svG (fun hg=>?_) (fun hg=>?_)<;>try exact svx)|refine svh (fun hb=>?_) (fun hb=>?_)|refine svb (fun b=>?_)|fail)); refine R2.C (oc1 _) ?_; (repeat' (first|refine svz ⟨fun b hq=>?_⟩|refine svA ⟨?_⟩|refine svu ⟨fun u=>?_⟩|(refine svG (fun hg=>?_) (fun hg=>?_)<;>try exact svx)|refine svh (fun hb=>?_) (fun hb=>?_)|refine svb (fun b=>?_)|fail)); refine R2.C (wc1 _) ?_; (repeat' (first|refine svz ⟨fun b hq=>?_⟩|refine svA ⟨?_⟩|refine svu ⟨fun u=>?_⟩|(refine svG (fun hg=>?_) (fun hg=>?_)<;>try exact svx)|refine svh (fun hb=>?_) (fun hb=>?_)|refine svb (fun b=>?_)|fail)); refine R2.C (lx1 _) ?_; (repeat' (first|refine svz ⟨fun b hq=>?_⟩|refine svA ⟨?_⟩|refine svu ⟨fun u=>?_⟩|(refine svG (fun hg=>?_) (fun hg=>?_)<;>try exact svx)|refine svh (fun hb=>?_) (fun hb=>?_)|refine svb (fun b=>?_)|fail)); refine R2.C (ly1 _) ?_; (repeat' (first|refine svz ⟨fun b hq=>?_⟩|refine svA ⟨?_⟩|refine svu ⟨fun u=>?_⟩|(refine svG (fun hg=>?_) (fun hg=>?_)<;>try exact svx)|refine svh (fun hb=>?_) (fun hb=>?_)|refine svb (fun b=>?_)|fail)); refine R2.C (stc _) ?_; (repeat' (first|refine svz ⟨fun b hq=>?_⟩|refine svA ⟨?_⟩|refine svu ⟨fun u=>?_⟩|(refine svG (fun hg=>?_) (fun hg=>?_)<;>try exact svx)|refine svh (fun hb=>?_) (fun hb=>?_)|refine svb (fun b=>?_)|fail)); refine S.buildr (xs := [.tmp 72, .tmp 74, .tmp 82, .tmp 90, .tmp 95, .tmp 100, .tmp 105, .tmp 111]) (vs := ints .i64 [id, de, X, Y, s.x, s.y, sf, s.nw]) ⟨_, rfl, ?_⟩ rfl rfl (by repeat (first | exact Evals.nil | (apply Evals.cons; rfl))) (by simp [ints, AV.cells]) (by repeat (first | exact Ones.nil | refine Ones.cons rfl ?_ | refine Ones.own (by (fail_if_success (apply memG)); repeat (first | exact List.Mem.head _ | assumption | refine List.Mem.tail _ ?_)) ?_)) (by omega) rfl; rename_i b5; revert b; intro b8; refine R2.melt ?_; refine R2.B ?_; refine Step.le (s' := ⟨120, [(59, .val (.pointer (some ⟨b0, 0, none⟩))), (60, AV.val (.int .i64 (6))), (69, .ro 1 (ints .i64 cl)), (112, .ro 1 (ints .i64 [id, de, X, Y, s.x, s.y, sf, s.nw]))], .box b0 (runC s (.val v1)) 135 :: .own v1 7 (L1.map SD.enc) 66 :: .box b8 [AV.val (.int .i64 (ox)), AV.val (.int .i64 (oy))] 122 :: .box b5 [AV.val (.int .u32 (id)), AV.val (.bool (true)), AV.val (.int .i64 (de))] 194 :: H⟩) lee ?_; refine S.call ?_; refine (sc v1 L1 (6) cl [id, de, X, Y, s.x, s.y, sf, s.nw] (by omega) (by simp) _).mono ?_; rintro r h2 ⟨v2, rfl, hh⟩; subst hh; refine kd ?_; (repeat' (first|refine svz ⟨fun b hq=>?_⟩|refine svA ⟨?_⟩|refine svu ⟨fun u=>?_⟩|(refine svG (fun hg=>?_) (fun hg=>?_)<;>try exact svx)|refine svh (fun hb=>?_) (fun hb=>?_)|refine svb (fun b=>?_)|fail)); refine ⟨(i + 1, v2), hlt, ?_, by dsimp only; omega⟩; dsimp only; rw [fs2]; exact lee
    | false =>
      simp only [Bool.false_eq_true, ↓reduceIte] at fs2
      have wc1 := fun h => wc id 64 h
      have wl1 := wl 64
      clear wc wl
      generalize whoF s.M id 64 = cl at *
      (repeat' (first|refine svz ⟨fun b hq=>?_⟩|refine svA ⟨?_⟩|refine svu ⟨fun u=>?_⟩|(refine svG (fun hg=>?_) (fun hg=>?_)<;>try exact svx)|refine svh (fun hb=>?_) (fun hb=>?_)|refine svb (fun b=>?_)|fail)); refine R2.C (oc1 _) ?_; (repeat' (first|refine svz ⟨fun b hq=>?_⟩|refine svA ⟨?_⟩|refine svu ⟨fun u=>?_⟩|(refine svG (fun hg=>?_) (fun hg=>?_)<;>try exact svx)|refine svh (fun hb=>?_) (fun hb=>?_)|refine svb (fun b=>?_)|fail)); refine R2.C (wc1 _) ?_; (repeat' (first|refine svz ⟨fun b hq=>?_⟩|refine svA ⟨?_⟩|refine svu ⟨fun u=>?_⟩|(refine svG (fun hg=>?_) (fun hg=>?_)<;>try exact svx)|refine svh (fun hb=>?_) (fun hb=>?_)|refine svb (fun b=>?_)|fail)); refine R2.C (lx1 _) ?_; (repeat' (first|refine svz ⟨fun b hq=>?_⟩|refine svA ⟨?_⟩|refine svu ⟨fun u=>?_⟩|(refine svG (fun hg=>?_) (fun hg=>?_)<;>try exact svx)|refine svh (fun hb=>?_) (fun hb=>?_)|refine svb (fun b=>?_)|fail)); refine R2.C (ly1 _) ?_; (repeat' (first|refine svz ⟨fun b hq=>?_⟩|refine svA ⟨?_⟩|refine svu ⟨fun u=>?_⟩|(refine svG (fun hg=>?_) (fun hg=>?_)<;>try exact svx)|refine svh (fun hb=>?_) (fun hb=>?_)|refine svb (fun b=>?_)|fail)); refine R2.C (stc _) ?_; (repeat' (first|refine svz ⟨fun b hq=>?_⟩|refine svA ⟨?_⟩|refine svu ⟨fun u=>?_⟩|(refine svG (fun hg=>?_) (fun hg=>?_)<;>try exact svx)|refine svh (fun hb=>?_) (fun hb=>?_)|refine svb (fun b=>?_)|fail)); refine S.buildr (xs := [.tmp 72, .tmp 74, .tmp 82, .tmp 90, .tmp 95, .tmp 100, .tmp 105, .tmp 111]) (vs := ints .i64 [id, de, X, Y, s.x, s.y, sf, s.nw]) ⟨_, rfl, ?_⟩ rfl rfl (by repeat (first | exact Evals.nil | (apply Evals.cons; rfl))) (by simp [ints, AV.cells]) (by repeat (first | exact Ones.nil | refine Ones.cons rfl ?_ | refine Ones.own (by (fail_if_success (apply memG)); repeat (first | exact List.Mem.head _ | assumption | refine List.Mem.tail _ ?_)) ?_)) (by omega) rfl; rename_i b5; revert b; intro b8; refine R2.melt ?_; refine R2.B ?_; refine Step.le (s' := ⟨120, [(59, .val (.pointer (some ⟨b0, 0, none⟩))), (60, AV.val (.int .i64 (7))), (69, .ro 1 (ints .i64 cl)), (112, .ro 1 (ints .i64 [id, de, X, Y, s.x, s.y, sf, s.nw]))], .box b0 (runC s (.val v1)) 135 :: .own v1 7 (L1.map SD.enc) 66 :: .box b8 [AV.val (.int .i64 (ox)), AV.val (.int .i64 (oy))] 122 :: .box b5 [AV.val (.int .u32 (id)), AV.val (.bool (false)), AV.val (.int .i64 (de))] 194 :: H⟩) lee ?_; refine S.call ?_; refine (sc v1 L1 (7) cl [id, de, X, Y, s.x, s.y, sf, s.nw] (by omega) (by simp) _).mono ?_; rintro r h2 ⟨v2, rfl, hh⟩; subst hh; refine kd ?_; (repeat' (first|refine svz ⟨fun b hq=>?_⟩|refine svA ⟨?_⟩|refine svu ⟨fun u=>?_⟩|(refine svG (fun hg=>?_) (fun hg=>?_)<;>try exact svx)|refine svh (fun hb=>?_) (fun hb=>?_)|refine svb (fun b=>?_)|fail)); refine ⟨(i + 1, v2), hlt, ?_, by dsimp only; omega⟩; dsimp only; rw [fs2]; exact lee
  · rw [List.take_of_length_le hge]
    (repeat' (first|refine svz ⟨fun b hq=>?_⟩|refine svA ⟨?_⟩|refine svu ⟨fun u=>?_⟩|(refine svG (fun hg=>?_) (fun hg=>?_)<;>try exact svx)|refine svh (fun hb=>?_) (fun hb=>?_)|refine svb (fun b=>?_)|fail))
    exact fin_n (vs := []) (h' := .box b0 (runC (s.ud n) (.val v1)) 135 :: .own v1 7 ((L ++ ST.flatMap (crsC s)).map SD.enc) 66 :: H) ⟨v1, rfl, rfl⟩
end Go.Proofs.YtbknacpdcdkjiaaGreat
