/- Steps from window to window: up, down, above, Meet. No condition. -/
import Derived.Test.YtbknacpdcdkjiaaGreatF6
import Derived.Test.YtbknacpdcdkjiaaGreatVM39
import Derived.Test.YtbknacpdcdkjiaaGreatU4
namespace Go.Proofs.YtbknacpdcdkjiaaGreat
open Go Go.VM
set_option maxRecDepth 100000
attribute [local irreducible] PurV Pur Step RL W D ACalls Then InBlock Fini
set_option linter.unusedVariables false
set_option linter.unusedSimpArgs false
set_option maxHeartbeats 20000000
instance teq_step : TEqS Tryz.prog 194 [true, false, true] := ⟨by kernel_rfl, by kernel_rfl, by kernel_rfl, by kernel_rfl⟩
def csE (s : CS3) : AV := .agg [AV.val (.int .u32 (s.1)), AV.val (.bool (s.2.1)), AV.val (.int .i64 (s.2.2))]
theorem csE_eq (i : Int) (e : Bool) (d : Int) : csE (i, e, d) = .agg [AV.val (.int .u32 (i)), AV.val (.bool (e)), AV.val (.int .i64 (d))] := rfl
theorem path1_c (b7 : Nat) (v : Value) (L : List CS3) (i : Int) (e : Bool) (d : Int) (H : Heap) (hi : i ≠ 0) (hl : L.length ≤ 1000000) :
    ACalls Tryz.prog 122 ([csE (i, e, d)] ++ [.val (.pointer (some ⟨b7, 0, none⟩))]) (.box b7 [.val (v)] 191 :: .own (v) 3 ((L).map csE) 194 :: H) (fun r h' => ∃ v', r = .tup [] ∧ h' = .box b7 [.val (v')] 191 :: .own (v') 3 (((L ++ [(i, e, d)])).map csE) 194 :: H) := by
  have e1 : (L ++ [(i, e, d)]).map csE = L.map csE ++ [.agg [AV.val (.int .u32 (i)), AV.val (.bool (e)), AV.val (.int .i64 (d))]] := by rw [List.map_append]; rfl
  rw [e1]
  rw [csE_eq]
  refine ACalls.intro Tryz.func122 rfl Tryz.ntmps122 Tryz.results122 (Nat.le_of_ble_eq_true rfl) ?_
  (repeat' (first|refine svz ⟨fun b hq=>?_⟩|refine svA ⟨?_⟩|refine svu ⟨fun u=>?_⟩|(refine svG (fun hg=>?_) (fun hg=>?_)<;>try exact svx)|refine svh (fun hb=>?_) (fun hb=>?_)|refine svb (fun b=>?_)|fail))
  refine S.V (v := AV.val (.bool (true))) ?_ (pur_neqS (p := false) (sh := [true, false, true]) rfl rfl (by repeat (first | exact IEqS.nil | apply IEqS.i | apply IEqS.b)) rfl (by simp [Scl.eq, hi]))
  (repeat' (first | (refine iR2 ?_; refine r2b ?_; refine R2.one ?_) | (refine iS ?_; refine iN ?_; refine S.build1r ?_) | (refine iS ?_; refine iMu ?_; refine S.mapU ?_) | refine svz ⟨fun b hq=>?_⟩|refine svT ⟨?_⟩|refine svu ⟨fun u=>?_⟩|(refine svG (fun hg=>?_) (fun hg=>?_)<;>try exact svx)|refine svh (fun hb=>?_) (fun hb=>?_)|refine svb (fun b=>?_) | refine sva ?_ | refine sv3 ?_ | fail))
  exact fin_n (vs := []) (h' := .box b7 [.val u] 191 :: .own u 3 (L.map csE ++ [.agg [AV.val (.int .u32 (i)), AV.val (.bool (e)), AV.val (.int .i64 (d))]]) 194 :: H) ⟨u, rfl, rfl⟩
theorem cup_c (b7 : Nat) (v : Value) (L : List CS3) (P : List Int) (e : Bool) (d : Int) (H : Heap) (hP : ∀ i ∈ P, i ≠ 0) (hl : L.length + P.length ≤ 1000000) :
    ACalls Tryz.prog 124 [AV.ro 1 (ints .u32 (P)), AV.val (.bool (e)), AV.val (.int .i64 (d)), .clo (.func 122) [.val (.pointer (some ⟨b7, 0, none⟩))]] (.box b7 [.val (v)] 191 :: .own (v) 3 ((L).map csE) 194 :: H) (fun r h' => ∃ v', r = .tup [] ∧ h' = .box b7 [.val (v')] 191 :: .own (v') 3 (((L ++ P.map fun i => ((i, e, d) : CS3))).map csE) 194 :: H) := by
  have pc := fun v L i hi hl => path1_c b7 v L i e d H hi hl
  refine ACalls.intro Tryz.func124 rfl Tryz.ntmps124 Tryz.results124 (Nat.le_of_ble_eq_true rfl) ?_
  (repeat' (first|refine svz ⟨fun b hq=>?_⟩|refine svA ⟨?_⟩|refine svu ⟨fun u=>?_⟩|(refine svG (fun hg=>?_) (fun hg=>?_)<;>try exact svx)|refine svh (fun hb=>?_) (fun hb=>?_)|refine svb (fun b=>?_)|fail))
  refine W.loop (J := fun z : Nat × Value => ⟨23, [(12, AV.val (.int .i64 ((z.1 : Nat)))), (11, AV.val (.int .i64 ((P.length : Nat)))), (10, AV.ro 1 (ints .u32 (P))), (1, AV.val (.bool (e))), (2, AV.val (.int .i64 (d))), (3, .clo (.func 122) [.val (.pointer (some ⟨b7, 0, none⟩))])], .box b7 [.val (z.2)] 191 :: .own (z.2) 3 (((L ++ (P.take z.1).map fun i => ((i, e, d) : CS3))).map csE) 194 :: H⟩)
    (Φ := fun z => z.1 ≤ P.length) (μ := fun z => P.length - z.1) (0, v) (by simp only [List.take_zero, List.map_nil, List.append_nil]; exact lee) (Nat.zero_le _) ?_
  rintro ⟨i, v1⟩ hi
  dsimp only at hi ⊢
  rcases Nat.lt_or_ge i P.length with hlt | hge
  · obtain ⟨a, ha⟩ : ∃ a, P[i]? = some a := ⟨_, List.getElem?_eq_getElem hlt⟩
    have e1 : (L ++ (P.take (i + 1)).map fun i => ((i, e, d) : CS3)) = (L ++ (P.take i).map fun i => ((i, e, d) : CS3)) ++ [(a, e, d)] := by
      rw [List.take_add_one, ha]; simp
    have c1 := pc v1 (L ++ (P.take i).map fun i => ((i, e, d) : CS3)) a (hP a (List.mem_of_getElem? ha)) (by rw [List.length_append, List.length_map, List.length_take]; omega)
    rw [← e1, csE_eq] at c1
    (repeat' (first|refine svz ⟨fun b hq=>?_⟩|refine svA ⟨?_⟩|refine svu ⟨fun u=>?_⟩|(refine svG (fun hg=>?_) (fun hg=>?_)<;>try exact svx)|refine svh (fun hb=>?_) (fun hb=>?_)|refine svb (fun b=>?_)|fail))
    refine S.callv (.clo 122 [.val (.pointer (some ⟨b7, 0, none⟩))]) (c1.mono ?_)
    rintro r h' ⟨v2, rfl, hh⟩
    subst hh
    (repeat' (first|refine svz ⟨fun b hq=>?_⟩|refine svA ⟨?_⟩|refine svu ⟨fun u=>?_⟩|(refine svG (fun hg=>?_) (fun hg=>?_)<;>try exact svx)|refine svh (fun hb=>?_) (fun hb=>?_)|refine svb (fun b=>?_)|fail))
    exact ⟨(i + 1, v2), hlt, lee, by dsimp only; omega⟩
  · rw [List.take_of_length_le hge]
    (repeat' (first|refine svz ⟨fun b hq=>?_⟩|refine svA ⟨?_⟩|refine svu ⟨fun u=>?_⟩|(refine svG (fun hg=>?_) (fun hg=>?_)<;>try exact svx)|refine svh (fun hb=>?_) (fun hb=>?_)|refine svb (fun b=>?_)|fail))
    exact fin_n (vs := []) (h' := .box b7 [.val (v1)] 191 :: .own (v1) 3 (((L ++ P.map fun i => ((i, e, d) : CS3))).map csE) 194 :: H) ⟨v1, rfl, rfl⟩
theorem cdown_c (b7 : Nat) (v : Value) (L : List CS3) (P : List Int) (e : Bool) (d : Int) (H : Heap) (hP : ∀ i ∈ P, i ≠ 0) (hl : L.length + P.length ≤ 1000000) :
    ACalls Tryz.prog 126 [AV.ro 1 (ints .u32 (P)), AV.val (.bool (e)), AV.val (.int .i64 (d)), .clo (.func 122) [.val (.pointer (some ⟨b7, 0, none⟩))]] (.box b7 [.val (v)] 191 :: .own (v) 3 ((L).map csE) 194 :: H) (fun r h' => ∃ v', r = .tup [] ∧ h' = .box b7 [.val (v')] 191 :: .own (v') 3 (((L ++ P.reverse.map fun i => ((i, e, d) : CS3))).map csE) 194 :: H) := by
  have pc := fun v L i hi hl => path1_c b7 v L i e d H hi hl
  refine ACalls.intro Tryz.func126 rfl Tryz.ntmps126 Tryz.results126 (Nat.le_of_ble_eq_true rfl) ?_
  (repeat' (first|refine svz ⟨fun b hq=>?_⟩|refine svA ⟨?_⟩|refine svu ⟨fun u=>?_⟩|(refine svG (fun hg=>?_) (fun hg=>?_)<;>try exact svx)|refine svh (fun hb=>?_) (fun hb=>?_)|refine svb (fun b=>?_)|fail))
  refine W.loop (J := fun z : Nat × Value => ⟨25, [(8, AV.val (.int .i64 ((z.1 : Nat) - 1))), (0, AV.ro 1 (ints .u32 (P))), (1, AV.val (.bool (e))), (2, AV.val (.int .i64 (d))), (3, .clo (.func 122) [.val (.pointer (some ⟨b7, 0, none⟩))])], .box b7 [.val (z.2)] 191 :: .own (z.2) 3 (((L ++ (P.drop z.1).reverse.map fun i => ((i, e, d) : CS3))).map csE) 194 :: H⟩)
    (Φ := fun z => z.1 ≤ P.length) (μ := fun z => z.1) (P.length, v) (by simp only [List.drop_length, List.reverse_nil, List.map_nil, List.append_nil]; exact lee) (Nat.le_refl _) ?_
  rintro ⟨i, v1⟩ hi
  dsimp only at hi ⊢
  cases i with
  | zero =>
    rw [List.drop_zero]
    (repeat' (first|refine svz ⟨fun b hq=>?_⟩|refine svA ⟨?_⟩|refine svu ⟨fun u=>?_⟩|(refine svG (fun hg=>?_) (fun hg=>?_)<;>try exact svx)|refine svh (fun hb=>?_) (fun hb=>?_)|refine svb (fun b=>?_)|fail))
    exact fin_n (vs := []) (h' := .box b7 [.val (v1)] 191 :: .own (v1) 3 (((L ++ P.reverse.map fun i => ((i, e, d) : CS3))).map csE) 194 :: H) ⟨v1, rfl, rfl⟩
  | succ i =>
    obtain ⟨a, ha⟩ : ∃ a, P[i]? = some a := ⟨_, List.getElem?_eq_getElem hi⟩
    have e1 : (L ++ (P.drop i).reverse.map fun i => ((i, e, d) : CS3)) = (L ++ (P.drop (i + 1)).reverse.map fun i => ((i, e, d) : CS3)) ++ [(a, e, d)] := by
      have : P.drop i = a :: P.drop (i + 1) := by
        rw [List.drop_eq_getElem_cons hi]; congr 1; rw [List.getElem?_eq_getElem hi] at ha; injection ha
      rw [this]; simp
    have c1 := pc v1 (L ++ (P.drop (i + 1)).reverse.map fun i => ((i, e, d) : CS3)) a (hP a (List.mem_of_getElem? ha)) (by rw [List.length_append, List.length_map, List.length_reverse, List.length_drop]; omega)
    rw [← e1, csE_eq] at c1
    rw [show ((i + 1 : Nat) : Int) - 1 = (i : Int) by omega]
    (repeat' (first|refine svz ⟨fun b hq=>?_⟩|refine svA ⟨?_⟩|refine svu ⟨fun u=>?_⟩|(refine svG (fun hg=>?_) (fun hg=>?_)<;>try exact svx)|refine svh (fun hb=>?_) (fun hb=>?_)|refine svb (fun b=>?_)|fail))
    refine S.callv (.clo 122 [.val (.pointer (some ⟨b7, 0, none⟩))]) (c1.mono ?_)
    rintro r h' ⟨v2, rfl, hh⟩
    subst hh
    (repeat' (first|refine svz ⟨fun b hq=>?_⟩|refine svA ⟨?_⟩|refine svu ⟨fun u=>?_⟩|(refine svG (fun hg=>?_) (fun hg=>?_)<;>try exact svx)|refine svh (fun hb=>?_) (fun hb=>?_)|refine svb (fun b=>?_)|fail))
    exact ⟨(i, v2), by dsimp only; omega, lee, by dsimp only; omega⟩
theorem cabove_c (a x : Int) (P : List Int) (h : Heap) (hl : P.length ≤ 1000000) : ACalls Tryz.prog 125 [AV.ro 1 (ints .u32 (a :: P)), AV.val (.int .u32 (x))] h (fun r h' => r = AV.ro 1 (ints .u32 (aboveF (a :: P) x)) ∧ h' = h) := by
  have ic := fun h => idx_c P x h
  have e1 : List.take ((ints .u32 (a :: P)).length - 1) (List.drop 1 (ints .u32 (a :: P))) = ints .u32 P := by
    rw [show ints .u32 (a :: P) = AV.val (.int .u32 (a)) :: ints .u32 P from rfl, List.drop_succ_cons, List.drop_zero]
    exact List.take_of_length_le (by simp)
  have hne : (a :: P).length = P.length + 1 := rfl
  unfold aboveF idxI at *
  rw [List.drop_succ_cons, List.drop_zero]
  cases hi : idxN x P with
  | none =>
    rw [hi] at ic
    dsimp only at ic ⊢
    refine ACalls.intro Tryz.func125 rfl Tryz.ntmps125 Tryz.results125 (Nat.le_of_ble_eq_true rfl) ?_
    (repeat' (first|refine svz ⟨fun b hq=>?_⟩|refine svA ⟨?_⟩|refine svu ⟨fun u=>?_⟩|(refine svG (fun hg=>?_) (fun hg=>?_)<;>try exact svx)|refine svh (fun hb=>?_) (fun hb=>?_)|refine svb (fun b=>?_)|fail))
    rw [e1]
    refine S.call ?_; refine (ic _).mono ?_; rintro r h' ⟨rfl, hh⟩; subst hh
    (repeat' (first|refine svz ⟨fun b hq=>?_⟩|refine svA ⟨?_⟩|refine svu ⟨fun u=>?_⟩|(refine svG (fun hg=>?_) (fun hg=>?_)<;>try exact svx)|refine svh (fun hb=>?_) (fun hb=>?_)|refine svb (fun b=>?_)|fail))
    exact fin_r (h' := _) ⟨rfl, rfl⟩
  | some i =>
    rw [hi] at ic
    dsimp only at ic ⊢
    have hlt : i < P.length := (List.getElem?_eq_some_iff.1 (idxN_lt hi)).1
    have e2 : ints .u32 (P.take i) = List.take (i - 0) (List.drop 0 (ints .u32 P)) := by simp [ints, List.map_take]
    rw [e2]
    refine ACalls.intro Tryz.func125 rfl Tryz.ntmps125 Tryz.results125 (Nat.le_of_ble_eq_true rfl) ?_
    (repeat' (first|refine svz ⟨fun b hq=>?_⟩|refine svA ⟨?_⟩|refine svu ⟨fun u=>?_⟩|(refine svG (fun hg=>?_) (fun hg=>?_)<;>try exact svx)|refine svh (fun hb=>?_) (fun hb=>?_)|refine svb (fun b=>?_)|fail))
    rw [e1]
    refine S.call ?_; refine (ic _).mono ?_; rintro r h' ⟨rfl, hh⟩; subst hh
    (repeat' (first|refine svz ⟨fun b hq=>?_⟩|refine svA ⟨?_⟩|refine svu ⟨fun u=>?_⟩|(refine svG (fun hg=>?_) (fun hg=>?_)<;>try exact svx)|refine svh (fun hb=>?_) (fun hb=>?_)|refine svb (fun b=>?_)|fail))
    exact fin_r (h' := _) ⟨rfl, rfl⟩
def meetV : Option Int → AV
  | some m => .tup [AV.val (.int .u32 (m)), AV.val (.bool (true))]
  | none => .tup [AV.val (.int .u32 (0)), AV.val (.bool (false))]
theorem tmeet_c {k : SVT} {up : UP} (w : TW k up) (hl : up.length ≤ 1000) (a c : Int) (h : Heap) : ACalls Tryz.prog 123 [encT k up, AV.val (.int .u32 (a)), AV.val (.int .u32 (c))] h (fun r h' => r = meetV (meetF (pathA up a) (pathA up c)) ∧ h' = h) := by
  have pa := fun h => path_all w (by omega) a h
  have pc := fun h => path_all w (by omega) c h
  have hl1 := pathA_len w a
  generalize pathA up a = A at *
  generalize pathA up c = C at *
  have ct := fun x h => contains_c C x h
  unfold encT at *
  refine ACalls.intro Tryz.func123 rfl Tryz.ntmps123 Tryz.results123 (Nat.le_of_ble_eq_true rfl) ?_
  (repeat' (first|refine svz ⟨fun b hq=>?_⟩|refine svA ⟨?_⟩|refine svu ⟨fun u=>?_⟩|(refine svG (fun hg=>?_) (fun hg=>?_)<;>try exact svx)|refine svh (fun hb=>?_) (fun hb=>?_)|refine svb (fun b=>?_)|fail))
  refine S.call ?_; refine (pc _).mono ?_; rintro r h' ⟨rfl, hh⟩; subst hh
  (repeat' (first|refine svz ⟨fun b hq=>?_⟩|refine svA ⟨?_⟩|refine svu ⟨fun u=>?_⟩|(refine svG (fun hg=>?_) (fun hg=>?_)<;>try exact svx)|refine svh (fun hb=>?_) (fun hb=>?_)|refine svb (fun b=>?_)|fail))
  refine S.call ?_; refine (pa _).mono ?_; rintro r h' ⟨rfl, hh⟩; subst hh
  (repeat' (first|refine svz ⟨fun b hq=>?_⟩|refine svA ⟨?_⟩|refine svu ⟨fun u=>?_⟩|(refine svG (fun hg=>?_) (fun hg=>?_)<;>try exact svx)|refine svh (fun hb=>?_) (fun hb=>?_)|refine svb (fun b=>?_)|fail))
  refine W.loop (J := fun i : Nat => ⟨27, [(18, AV.val (.int .i64 ((i : Nat)))), (17, AV.val (.int .i64 ((A.length : Nat)))), (16, AV.ro 1 (ints .u32 (A))), (8, AV.ro 1 (ints .u32 (C)))], h⟩)
    (Φ := fun i => i ≤ A.length ∧ meetF A C = meetF (A.drop i) C) (μ := fun i => A.length - i) 0 lee ⟨Nat.zero_le _, rfl⟩ ?_
  rintro i ⟨hi, hn⟩
  rcases Nat.lt_or_ge i A.length with hlt | hge
  · obtain ⟨x, ha⟩ : ∃ x, A[i]? = some x := ⟨_, List.getElem?_eq_getElem hlt⟩
    have hd : A.drop i = x :: A.drop (i + 1) := by
      rw [List.drop_eq_getElem_cons hlt]; congr 1; rw [List.getElem?_eq_getElem hlt] at ha; injection ha
    have hst : meetF (A.drop i) C = if x ∈ C then some x else meetF (A.drop (i + 1)) C := by
      rw [hd]; unfold meetF; rw [List.find?_cons]
      by_cases q : x ∈ C
      · rw [if_pos q, decide_eq_true q]
      · rw [if_neg q, decide_eq_false q]
    have ct1 := fun h => ct x h
    rw [hn, hst]
    by_cases q : x ∈ C
    · rw [decide_eq_true q] at ct1
      rw [if_pos q]
      clear hst hn
      (repeat' (first|refine svz ⟨fun b hq=>?_⟩|refine svA ⟨?_⟩|refine svu ⟨fun u=>?_⟩|(refine svG (fun hg=>?_) (fun hg=>?_)<;>try exact svx)|refine svh (fun hb=>?_) (fun hb=>?_)|refine svb (fun b=>?_)|fail))
      refine S.call ?_; refine (ct1 _).mono ?_; rintro r h' ⟨rfl, hh⟩; subst hh
      (repeat' (first|refine svz ⟨fun b hq=>?_⟩|refine svA ⟨?_⟩|refine svu ⟨fun u=>?_⟩|(refine svG (fun hg=>?_) (fun hg=>?_)<;>try exact svx)|refine svh (fun hb=>?_) (fun hb=>?_)|refine svb (fun b=>?_)|fail))
      exact fin_r (h' := _) ⟨rfl, rfl⟩
    · rw [decide_eq_false q] at ct1
      rw [if_neg q] at hst
      rw [if_neg q]
      rw [hst] at hn
      rw [← hn]
      clear hst
      (repeat' (first|refine svz ⟨fun b hq=>?_⟩|refine svA ⟨?_⟩|refine svu ⟨fun u=>?_⟩|(refine svG (fun hg=>?_) (fun hg=>?_)<;>try exact svx)|refine svh (fun hb=>?_) (fun hb=>?_)|refine svb (fun b=>?_)|fail))
      refine S.call ?_; refine (ct1 _).mono ?_; rintro r h' ⟨rfl, hh⟩; subst hh
      (repeat' (first|refine svz ⟨fun b hq=>?_⟩|refine svA ⟨?_⟩|refine svu ⟨fun u=>?_⟩|(refine svG (fun hg=>?_) (fun hg=>?_)<;>try exact svx)|refine svh (fun hb=>?_) (fun hb=>?_)|refine svb (fun b=>?_)|fail))
      exact ⟨i + 1, ⟨hlt, hn⟩, lee, by omega⟩
  · rw [hn, List.drop_of_length_le hge, show meetF [] C = none from rfl]
    (repeat' (first|refine svz ⟨fun b hq=>?_⟩|refine svA ⟨?_⟩|refine svu ⟨fun u=>?_⟩|(refine svG (fun hg=>?_) (fun hg=>?_)<;>try exact svx)|refine svh (fun hb=>?_) (fun hb=>?_)|refine svb (fun b=>?_)|fail))
    exact fin_r (h' := _) ⟨rfl, rfl⟩
end Go.Proofs.YtbknacpdcdkjiaaGreat
