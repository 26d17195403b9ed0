/- Trees: Kids, Below; Place at the top. No condition. -/
import Derived.Test.YtfbegifmhgkpjaaGreatLayM
import Derived.Test.YtfbegifmhgkpjaaGreatQ11
import Derived.Test.YtfbegifmhgkpjaaGreatZ5
namespace Go.Proofs.YtfbegifmhgkpjaaGreat
open Go Go.VM
attribute [local irreducible] PurV Pur Step RL W D ACalls Then InBlock Fini
set_option linter.unusedVariables false
set_option linter.unusedSimpArgs false
set_option maxHeartbeats 20000000
instance tf_below1 : TFun Tryz.prog 89 := ⟨by kernel_rfl⟩
set_option maxRecDepth 100000 in
theorem kids_c (k : SVT) (up : UP) (id : Int) (h : Heap) (hl : (ofS k id).length ≤ 1000000) : ACalls Tryz.prog 13 [encT k up, .val (.int .u32 (id))] h (fun r h' => r = .ro 1 (ints .u32 (ofS k id)) ∧ h' = h) := by
  have cl := fun h => clnI_c (ofS k id) h (by omega)
  unfold encT
  refine ACalls.intro Tryz.func13 rfl Tryz.ntmps13 Tryz.results13 (Nat.le_of_ble_eq_true rfl) ?_
  (repeat' (first|refine svz ⟨fun b hq=>?_⟩|refine svA ⟨?_⟩|refine svu ⟨fun u=>?_⟩|(refine svG (fun hg=>?_) (fun hg=>?_)<;>try exact svx)|refine svh (fun hb=>?_) (fun hb=>?_)|refine svb (fun b=>?_)|fail))
  refine S.call ?_; refine (cl _).mono ?_; rintro r h' ⟨rfl, hh⟩; subst hh
  (repeat' (first|refine svz ⟨fun b hq=>?_⟩|refine svA ⟨?_⟩|refine svu ⟨fun u=>?_⟩|(refine svG (fun hg=>?_) (fun hg=>?_)<;>try exact svx)|refine svh (fun hb=>?_) (fun hb=>?_)|refine svb (fun b=>?_)|fail))
  exact fin_r (h' := _) ⟨rfl, rfl⟩
theorem flat_snoc {g : Int → List Int} {L : List Int} {i : Nat} {a : Int} (h : L[i]? = some a) : (L.take (i + 1)).flatMap g = (L.take i).flatMap g ++ g a := by
  rw [List.take_add_one, h, Option.toList_some, List.flatMap_append]; simp
theorem flat_le {g : Int → List Int} {L : List Int} {i : Nat} : ((L.take i).flatMap g).length ≤ (L.flatMap g).length := by
  have : L.flatMap g = (L.take i).flatMap g ++ (L.drop i).flatMap g := by rw [← List.flatMap_append, List.take_append_drop]
  rw [this, List.length_append]; omega
set_option maxRecDepth 100000 in
theorem below1_c (k : SVT) (up : UP) (rk : Int → Nat) (hrk : ∀ p c, c ∈ ofS k p → rk c < rk p) (hll : ∀ p, (ofS k p).length ≤ 1000000) (b5 b2 b6 : Nat) (H : Heap) (m2 : OE.box b2 [mapV .u32 vIds k, mapV .u32 (vI .u32) up] 28 ∈ H) (m6 : OE.box b6 [.clo (.func 89) [.val (.pointer (some ⟨b5, 0, none⟩)), .val (.pointer (some ⟨b2, 0, none⟩)), .val (.pointer (some ⟨b6, 0, none⟩))]] 131 ∈ H) :
    ∀ (f : Nat) (id : Int) (v : Value) (acc : List Int), rk id < f → acc.length + (belF (ofS k) f id).length ≤ 1000000 →
      ACalls Tryz.prog 89 ([.val (.int .u32 (id))] ++ [.val (.pointer (some ⟨b5, 0, none⟩)), .val (.pointer (some ⟨b2, 0, none⟩)), .val (.pointer (some ⟨b6, 0, none⟩))]) (.box b5 [.val v] 40 :: .own v 1 (ints .u32 acc) 57 :: H) (fun r h' => ∃ v', r = .tup [] ∧ h' = .box b5 [.val v'] 40 :: .own v' 1 (ints .u32 (acc ++ belF (ofS k) f id)) 57 :: H)
  | 0, _, _, _, h, _ => absurd h (Nat.not_lt_zero _)
  | f + 1, id, v, acc, hr, hlen => by
    have ih := below1_c k up rk hrk hll b5 b2 b6 H m2 m6 f
    have hk : ∀ c ∈ ofS k id, rk c < f := fun c hc => by have := hrk id c hc; omega
    clear hr
    unfold belF at hlen ⊢
    simp only [List.cons_append, List.nil_append] at ih ⊢
    rw [List.length_cons] at hlen
    rw [show acc ++ id :: (ofS k id).flatMap (belF (ofS k) f) = (acc ++ [id]) ++ (ofS k id).flatMap (belF (ofS k) f) by simp]
    generalize belF (ofS k) f = g at *
    have hLL : (lkF k id).getD [] = ofS k id := rfl
    have hll := hll id
    refine ACalls.intro Tryz.func89 rfl Tryz.ntmps89 Tryz.results89 (Nat.le_of_ble_eq_true rfl) ?_
    (repeat' (first | (refine iR2 ?_; refine r2b ?_; refine R2.one ?_) | (refine iS ?_; refine iN ?_; refine S.build1r ?_) | (refine iS ?_; refine iMu ?_; refine S.mapU ?_) | refine svz ⟨fun b hq=>?_⟩|refine svT ⟨?_⟩|refine svu ⟨fun u=>?_⟩|(refine svG (fun hg=>?_) (fun hg=>?_)<;>try exact svx)|refine svh (fun hb=>?_) (fun hb=>?_)|refine svb (fun b=>?_) | refine sva ?_ | refine sv3 ?_ | fail))
    rw [hLL]
    generalize ofS k id = L at *
    refine W.loop (J := fun z : Nat × Value => ⟨24, [(16, .val (.int .i64 ((z.1 : Nat)))), (15, .val (.int .i64 ((L.length : Nat)))), (14, .ro 1 (ints .u32 (L))), (1, .val (.pointer (some ⟨b5, 0, none⟩))), (2, .val (.pointer (some ⟨b2, 0, none⟩))), (3, .val (.pointer (some ⟨b6, 0, none⟩)))], .box b5 [.val z.2] 40 :: .own z.2 1 (ints .u32 (acc ++ [id] ++ (L.take z.1).flatMap g)) 57 :: H⟩)
      (Φ := fun z => z.1 ≤ L.length) (μ := fun z => L.length - z.1) (0, u) (by simp only [List.take_zero, List.flatMap_nil, List.append_nil, ints_append]; exact lee) (Nat.zero_le _) ?_
    rintro ⟨i, v1⟩ hi
    dsimp only at hi ⊢
    rcases Nat.lt_or_ge i L.length with hlt | hge
    · obtain ⟨a, ha⟩ : ∃ a, L[i]? = some a := ⟨_, List.getElem?_eq_getElem hlt⟩
      have hs := flat_snoc (g := g) ha
      have hle := flat_le (g := g) (L := L) (i := i + 1)
      have c1 := ih a v1 (acc ++ [id] ++ (L.take i).flatMap g) (hk a (List.mem_of_getElem? ha)) (by rw [hs] at hle; simp only [List.length_append, List.length_cons, List.length_nil] at hle ⊢; omega)
      rw [List.append_assoc (acc ++ [id]), ← hs] at c1
      (repeat' (first|refine svz ⟨fun b hq=>?_⟩|refine svA ⟨?_⟩|refine svu ⟨fun u=>?_⟩|(refine svG (fun hg=>?_) (fun hg=>?_)<;>try exact svx)|refine svh (fun hb=>?_) (fun hb=>?_)|refine svb (fun b=>?_)|fail))
      refine S.callv (.clo 89 [.val (.pointer (some ⟨b5, 0, none⟩)), .val (.pointer (some ⟨b2, 0, none⟩)), .val (.pointer (some ⟨b6, 0, none⟩))]) (c1.mono ?_)
      rintro r h' ⟨v2, rfl, hh⟩
      subst hh
      (repeat' (first|refine svz ⟨fun b hq=>?_⟩|refine svA ⟨?_⟩|refine svu ⟨fun u=>?_⟩|(refine svG (fun hg=>?_) (fun hg=>?_)<;>try exact svx)|refine svh (fun hb=>?_) (fun hb=>?_)|refine svb (fun b=>?_)|fail))
      exact ⟨(i + 1, v2), hlt, lee, by dsimp only; omega⟩
    · rw [List.take_of_length_le hge]
      (repeat' (first|refine svz ⟨fun b hq=>?_⟩|refine svA ⟨?_⟩|refine svu ⟨fun u=>?_⟩|(refine svG (fun hg=>?_) (fun hg=>?_)<;>try exact svx)|refine svh (fun hb=>?_) (fun hb=>?_)|refine svb (fun b=>?_)|fail))
      exact fin_n (h' := .box b5 [.val v1] 40 :: .own v1 1 (ints .u32 (acc ++ [id] ++ L.flatMap g)) 57 :: H) ⟨v1, rfl, rfl⟩
set_option maxRecDepth 100000 in
theorem below_c (k : SVT) (up : UP) (rk : Int → Nat) (hrk : ∀ p c, c ∈ ofS k p → rk c < rk p) (hll : ∀ p, (ofS k p).length ≤ 1000000) (f : Nat) (id : Int) (h : Heap) (hid : hasT up id = true) (hf : rk id < f) (hl : (belF (ofS k) f id).length ≤ 1000000) :
    ACalls Tryz.prog 38 [encT k up, .val (.int .u32 (id))] h (fun r h' => r = .ro 1 (ints .u32 (belF (ofS k) f id)) ∧ h' = h) := by
  have th := fun h => thas_c k up id h
  rw [hid] at th
  have b1 := fun b5 b2 b6 H m2 m6 v => below1_c k up rk hrk hll b5 b2 b6 H m2 m6 f id v [] hf (by simpa using hl)
  simp only [List.nil_append, List.cons_append] at b1
  generalize belF (ofS k) f id = L at *
  refine fz (g := fun v => v) (g' := fun v => v) (k := 1) (e := 57) (l := ints .u32 L) (fun v => by (repeat' (first | exact Frz.hit | apply Frz.aggc | apply Frz.tupc | exact Frz.aggn | exact Frz.tupn | exact Frz.keep _))) ?_
  unfold encT at *
  refine ACalls.intro Tryz.func38 rfl Tryz.ntmps38 Tryz.results38 (Nat.le_of_ble_eq_true rfl) ?_
  (repeat' (first|refine svz ⟨fun b hq=>?_⟩|refine svA ⟨?_⟩|refine svu ⟨fun u=>?_⟩|(refine svG (fun hg=>?_) (fun hg=>?_)<;>try exact svx)|refine svh (fun hb=>?_) (fun hb=>?_)|refine svb (fun b=>?_)|fail))
  refine S.call ?_; refine (th _).mono ?_; rintro r h' ⟨rfl, hh⟩; subst hh
  refine RL.nil_ 1 57 ?_
  (repeat' (first|refine svz ⟨fun b hq=>?_⟩|refine svA ⟨?_⟩|refine svu ⟨fun u=>?_⟩|(refine svG (fun hg=>?_) (fun hg=>?_)<;>try exact svx)|refine svh (fun hb=>?_) (fun hb=>?_)|refine svb (fun b=>?_)|fail))
  rename_i b2 b5
  revert b; intro b6
  refine Step.le (s' := ⟨16, [(13, .val (.int .u32 (id))), (12, .clo (.func 89) [.val (.pointer (some ⟨b5, 0, none⟩)), .val (.pointer (some ⟨b2, 0, none⟩)), .val (.pointer (some ⟨b6, 0, none⟩))]), (5, .val (.pointer (some ⟨b5, 0, none⟩)))], .box b5 [.val (.slice none 0 0)] 40 :: .own (.slice none 0 0) 1 (ints .u32 []) 57 :: .box b6 [.clo (.func 89) [.val (.pointer (some ⟨b5, 0, none⟩)), .val (.pointer (some ⟨b2, 0, none⟩)), .val (.pointer (some ⟨b6, 0, none⟩))]] 131 :: .box b2 [mapV .u32 vIds k, mapV .u32 (vI .u32) up] 28 :: h⟩) lee ?_
  refine S.callv (.clo 89 [.val (.pointer (some ⟨b5, 0, none⟩)), .val (.pointer (some ⟨b2, 0, none⟩)), .val (.pointer (some ⟨b6, 0, none⟩))]) ((b1 b5 b2 b6 (.box b6 [.clo (.func 89) [.val (.pointer (some ⟨b5, 0, none⟩)), .val (.pointer (some ⟨b2, 0, none⟩)), .val (.pointer (some ⟨b6, 0, none⟩))]] 131 :: .box b2 [mapV .u32 vIds k, mapV .u32 (vI .u32) up] 28 :: h) (by (fail_if_success (apply memG)); repeat (first | exact List.Mem.head _ | assumption | refine List.Mem.tail _ ?_)) (by (fail_if_success (apply memG)); repeat (first | exact List.Mem.head _ | assumption | refine List.Mem.tail _ ?_)) _).mono ?_)
  rintro r h' ⟨v2, rfl, hh⟩
  subst hh
  (repeat' (first|refine svz ⟨fun b hq=>?_⟩|refine svA ⟨?_⟩|refine svu ⟨fun u=>?_⟩|(refine svG (fun hg=>?_) (fun hg=>?_)<;>try exact svx)|refine svh (fun hb=>?_) (fun hb=>?_)|refine svb (fun b=>?_)|fail))
  exact fin_r (h' := .own v2 1 (ints .u32 L) 57 :: h) ⟨v2, rfl, rfl⟩
set_option maxRecDepth 100000 in
theorem insert_c (v : Value) (L : List Int) (x : Int) (h : Heap) (hl : L.length ≤ 1000000) : ACalls Tryz.prog 49 [.val v, .val (.int .i64 ((L.length : Int))), .ro 1 [.val (.int .u32 (x))]] (.own v 1 (ints .u32 L) 57 :: h) (fun r h' => ∃ w, r = .val w ∧ h' = .own w 1 (ints .u32 (L ++ [x])) 57 :: h) := by
  have hi : (ints .u32 L).length = L.length := len_ints _ _
  refine ACalls.intro Tryz.func49 rfl Tryz.ntmps49 Tryz.results49 (Nat.le_of_ble_eq_true rfl) ?_
  (repeat' (first|refine svz ⟨fun b hq=>?_⟩|refine svA ⟨?_⟩|refine svu ⟨fun u=>?_⟩|(refine svG (fun hg=>?_) (fun hg=>?_)<;>try exact svx)|refine svh (fun hb=>?_) (fun hb=>?_)|refine svb (fun b=>?_)|fail))
  exact fin_r (h' := .own u 1 (ints .u32 (L ++ [x])) 57 :: h) ⟨u, rfl, rfl⟩ (h2 := by rw [ints_append]; exact (by repeat (first | exact LeH.refl _ | exact LeH.nil _ | refine LeH.cons (by (fail_if_success (apply tkG)); (repeat (first | exact Tk.here | apply Tk.there)); first | done | fail) ?_ | refine LeH.boxw (by (fail_if_success (apply tkG)); (repeat (first | exact Tk.here | apply Tk.there)); first | done | fail) (by (repeat (first | exact Wk.refl _ | exact Wk.nilr _ | exact Wk.nilm | apply Wk.aggc | apply Wk.tupc | exact Wk.aggn | exact Wk.tupn)); first | done | fail) ?_ | refine LeH.skip ?_)))
theorem putF_twice {α : Type} (t : List (Int × α)) (i : Int) (a c : α) : putF (putF t i a) i c = putF t i c := by
  have h1 : (lkF (putF t i a) i).isSome = true := by rw [lk_put_same]; rfl
  unfold putF at h1 ⊢
  rw [if_pos h1]
  cases e : (lkF t i).isSome with
  | true =>
    rw [if_pos rfl, if_pos rfl, List.map_map]
    refine List.map_congr_left fun q hq => ?_
    simp only [Function.comp]
    by_cases hq : q.1 = i
    · rw [if_pos hq, if_pos rfl, if_pos hq]
    · rw [if_neg hq, if_neg hq]
  | false =>
    rw [if_neg (by decide), if_neg (by decide), List.map_append]
    have hn : ∀ q ∈ t, q.1 ≠ i := lkF_none.1 (by cases h : lkF t i with | none => rfl | some y => rw [h] at e; cases e)
    rw [List.map_congr_left (g := id) fun q hq => by rw [if_neg (hn q hq)]; rfl]
    simp
theorem delL_len {id : Int} : ∀ {L : List Int}, L.Nodup → id ∈ L → (delL id L).length + 1 = L.length := fun {L} hn hm => by
  have : (delL id L) = L.erase id := by
    rw [List.Nodup.erase_eq_filter hn]
    unfold delL
    exact List.filter_congr fun x _ => by simp [bne, BEq.beq]
  rw [this, List.length_erase_of_mem hm]
  have := List.length_pos_of_mem hm
  omega
theorem delL_perm {id : Int} {L : List Int} (hn : L.Nodup) (hm : id ∈ L) : (delL id L ++ [id]).Perm L := by
  have : (delL id L) = L.erase id := by
    rw [List.Nodup.erase_eq_filter hn]
    unfold delL
    exact List.filter_congr fun x _ => by simp [bne, BEq.beq]
  rw [this]
  exact (List.perm_append_comm.trans (List.perm_cons_erase hm).symm)
def topK (k : SVT) (p id : Int) : SVT := putF k p (delL id (ofS k p) ++ [id])
theorem TW.top {k : SVT} {up : UP} (w : TW k up) {id p : Int} (h : lkF up id = some p) : TW (topK k p id) up := by
  have hm := (w.kid p id).2 h
  refine w.order ?_ (delL_perm (w.kd p) hm)
  unfold ofS at hm
  cases e : lkF k p with
  | none => rw [e] at hm; cases hm
  | some L => rfl
set_option maxRecDepth 100000 in
theorem place_c (k : SVT) (up : UP) (wk : TW k up) (id p : Int) (h : Heap) (hup : lkF up id = some p) (hul : up.length ≤ 1000) :
    ACalls Tryz.prog 12 [encT k up, .val (.int .u32 (id)), .val (.int .i64 (((ofS k p).length : Int) - 1))] h (fun r h' => r = .tup [encT (topK k p id) up, .val (.int .i64 (0))] ∧ h' = h) := by
  have hid : id ≠ 1 := fun e => by rw [e, wk.n1] at hup; cases hup
  have ot := fun h => other_c k up id h
  rw [show othF up id = 0 by unfold othF hasT; rw [if_neg hid, hup]; rfl] at ot
  have hm := (wk.kid p id).2 hup
  have hL0l := wk.ofl p
  have hs0 : (lkF k p).isSome = true := by
    unfold ofS at hm
    cases e : lkF k p with
    | none => rw [e] at hm; cases hm
    | some L => rfl
  have hdl := delL_len (wk.kd p) hm
  have tw := fun h => twin_c k up p h wk.kn wk.un (fun x hx => by have := wk.ol x hx; omega) (by have := wk.kl; omega)
  have hlk : ∀ v, lkF (k.map (entV p v)) p = some (.val v) := fun v => by
    rw [lk_ent]
    cases e : lkF k p with
    | none => rw [e] at hs0; cases hs0
    | some L => rfl
  have tk := fun v bk bu h => take_c (k.map (entV p v)) up id p bk bu v (ofS k p) h (hlk v) hup (by omega)
  have ip := fun v h => insert_c v (delL id (ofS k p)) id h (by omega)
  have hgd : (lkF k ((lkF up id).getD 0)).getD [] = ofS k p := by rw [hup]; rfl
  have hpp : (lkF up id).getD 0 = p := by rw [hup]; rfl
  unfold topK
  generalize hL : ofS k p = L at *
  generalize delL id L = D at *
  have hDl : (D.length : Int) = (L.length : Int) - 1 := by omega
  rw [hDl] at ip
  unfold encT at *
  refine ACalls.intro Tryz.func12 rfl Tryz.ntmps12 Tryz.results12 (Nat.le_of_ble_eq_true rfl) ?_
  (repeat' (first|refine svz ⟨fun b hq=>?_⟩|refine svA ⟨?_⟩|refine svu ⟨fun u=>?_⟩|(refine svG (fun hg=>?_) (fun hg=>?_)<;>try exact svx)|refine svh (fun hb=>?_) (fun hb=>?_)|refine svb (fun b=>?_)|fail))
  rename_i b3
  revert b; intro b6
  refine S.call ?_; refine (ot _).mono ?_; rintro r h' ⟨rfl, hh⟩; subst hh
  have hgl : ((lkF k ((lkF up id).getD 0)).getD []).length = L.length := by rw [hgd]
  (repeat' (first|refine svz ⟨fun b hq=>?_⟩|refine svA ⟨?_⟩|refine svu ⟨fun u=>?_⟩|(refine svG (fun hg=>?_) (fun hg=>?_)<;>try exact svx)|refine svh (fun hb=>?_) (fun hb=>?_)|refine svb (fun b=>?_)|fail))
  rw [hpp]
  clear hgl hgd ot
  refine S.call ?_
  refine (tw _).mono ?_
  rintro r h' ⟨bk, bu, v, rfl, hh⟩
  subst hh
  (repeat' (first|refine svz ⟨fun b hq=>?_⟩|refine svA ⟨?_⟩|refine svu ⟨fun u=>?_⟩|(refine svG (fun hg=>?_) (fun hg=>?_)<;>try exact svx)|refine svh (fun hb=>?_) (fun hb=>?_)|refine svb (fun b=>?_)|fail))
  revert b; intro b10
  refine Step.le (s' := ⟨51, [(37, .val (.int .u32 (id))), (36, .agg [.val (.map (some bk)), .val (.map (some bu))]), (10, .val (.pointer (some ⟨b10, 0, none⟩))), (9, .val (.int .u32 (p))), (6, .val (.pointer (some ⟨b6, 0, none⟩))), (2, .val (.int .i64 ((L.length : Int) - 1))), (1, .val (.int .u32 (id))), (7, .val (.int .i64 (0)))], .own v 1 (ints .u32 L) 57 :: mpV bk .u32 idA (k.map (entV p v)) :: mpV bu .u32 (vI .u32) up :: .box b10 [.val (.map (some bk)), .val (.map (some bu))] 28 :: .box b6 [.val (.map none), .val (.map none)] 28 :: h⟩) lee ?_
  refine S.call ?_
  refine (tk v bk bu _).mono ?_
  rintro r h' ⟨w, rfl, hh⟩
  subst hh
  (repeat' ((fail_if_success (refine drg ?_)); (first|refine svz ⟨fun b hq=>?_⟩|refine svA ⟨?_⟩|refine svu ⟨fun u=>?_⟩|(refine svG (fun hg=>?_) (fun hg=>?_)<;>try exact svx)|refine svh (fun hb=>?_) (fun hb=>?_)|refine svb (fun b=>?_)|fail)))
  have hlw : ∀ M : List (Int × AV), lkF (putF M p (.val w)) p = some (.val w) := fun M => lk_put_same _ _ _
  refine W.dr (.rw (.ro (.ro (.ro (.ro (.done _)))))) ?_
  (repeat' (first | refine svz ⟨fun b hq=>?_⟩|refine svT ⟨?_⟩|refine svu ⟨fun u=>?_⟩|(refine svG (fun hg=>?_) (fun hg=>?_)<;>try exact svx)|refine svh (fun hb=>?_) (fun hb=>?_)|refine svb (fun b=>?_) | refine sva ?_ | refine sv3 ?_ | fail))
  refine R2.F (v := .val w) (step_pur (pur_look_own (f := idA) (b := bk) (t := putF (k.map (entV p v)) p (.val w)) rfl (by (fail_if_success (apply memG)); repeat (first | exact List.Mem.head _ | assumption | refine List.Mem.tail _ ?_)) rfl (by rw [hlw]; exact Wk.refl _)) rfl (kf (LeH.refl _))) ?_
  (repeat' (first | (refine iR2 ?_; refine r2b ?_; refine R2.one (kk := 1) ?_) | (refine iS ?_; refine iN ?_; refine S.build1r ?_) | refine svz ⟨fun b hq=>?_⟩|refine svT ⟨?_⟩|refine svu ⟨fun u=>?_⟩|(refine svG (fun hg=>?_) (fun hg=>?_)<;>try exact svx)|refine svh (fun hb=>?_) (fun hb=>?_)|refine svb (fun b=>?_) | refine sva ?_ | refine sv3 ?_ | fail))
  refine R2.B ?_
  refine S.call ?_
  refine (ip _ _).mono ?_
  rintro r h' ⟨w2, rfl, hh⟩
  subst hh
  refine kd ?_
  refine R2.melt ?_
  refine R2.Bs ?_
  refine S.mapU (f := idA) (m := putF (k.map (entV p v)) p (.val w)) (a := .val w2) ?_
  rw [putF_twice]
  refine R2.E ?_
  refine thn ?_
  refine W.le (s' := ⟨51, [(10, .val (.pointer (some ⟨b10, 0, none⟩))), (6, .val (.pointer (some ⟨b6, 0, none⟩))), (7, .val (.int .i64 (0)))], .own w2 1 (ints .u32 (D ++ [id])) 57 :: mpV bk .u32 idA (putF (k.map (entV p v)) p (.val w2)) :: mpV bu .u32 (vI .u32) up :: .box b10 [.val (.map (some bk)), .val (.map (some bu))] 28 :: .box b6 [.val (.map none), .val (.map none)] 28 :: h⟩) lee ?_
  generalize D ++ [id] = D2 at *
  refine W.frzg (v := w2) (by (fail_if_success (apply tkG)); (repeat (first | exact Tk.here | apply Tk.there)); first | done | fail) (by repeat' (first | apply FrzT.cons | exact FrzT.rest _ | exact Frz.hit | apply Frz.aggc | apply Frz.tupc | exact Frz.aggn | exact Frz.tupn | exact Frz.keep _)) (by first | exact frz_kids | (repeat' (first | exact frz_kids | apply FrzG.keep | apply FrzG.box | exact Frz.hit | apply Frz.aggc | exact Frz.aggn | exact Frz.keep _))) ?_
  generalize putF k p D2 = k2 at *
  refine W.frzm (b := bk) (by (fail_if_success (apply tkG)); (repeat (first | exact Tk.here | apply Tk.there)); first | done | fail) (by repeat' (first | apply FzT.cons | exact FzT.rest _ | exact Fz.hit | apply Fz.aggc | apply Fz.tupc | exact Fz.aggn | exact Fz.tupn | exact Fz.keep _)) (by repeat' (first | apply FzH.box | apply FzH.keep | exact FzH.rest _ | exact Fz.hit | apply Fz.aggc | apply Fz.tupc | exact Fz.aggn | exact Fz.tupn | exact Fz.keep _)) ?_
  refine W.frzm (b := bu) (by (fail_if_success (apply tkG)); (repeat (first | exact Tk.here | apply Tk.there)); first | done | fail) (by repeat' (first | apply FzT.cons | exact FzT.rest _ | exact Fz.hit | apply Fz.aggc | apply Fz.tupc | exact Fz.aggn | exact Fz.tupn | exact Fz.keep _)) (by repeat' (first | apply FzH.box | apply FzH.keep | exact FzH.rest _ | exact Fz.hit | apply Fz.aggc | apply Fz.tupc | exact Fz.aggn | exact Fz.tupn | exact Fz.keep _)) ?_
  (repeat' (first|refine svz ⟨fun b hq=>?_⟩|refine svA ⟨?_⟩|refine svu ⟨fun u=>?_⟩|(refine svG (fun hg=>?_) (fun hg=>?_)<;>try exact svx)|refine svh (fun hb=>?_) (fun hb=>?_)|refine svb (fun b=>?_)|fail))
  exact fin_r (h' := h) ⟨rfl, rfl⟩
end Go.Proofs.YtfbegifmhgkpjaaGreat
