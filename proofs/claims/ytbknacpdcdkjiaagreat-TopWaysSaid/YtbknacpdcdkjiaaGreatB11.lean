/- slices.Compact at int. No condition. -/
import Derived.Test.YtbknacpdcdkjiaaGreatB10
namespace Go.Proofs.YtbknacpdcdkjiaaGreat
open Go Go.VM
attribute [local irreducible] PurV Pur Step RL W D ACalls Then InBlock Fini
set_option linter.unusedVariables false
set_option linter.unusedSimpArgs false
set_option maxHeartbeats 20000000
def ddF : List Int → List Int
  | [] => []
  | [x] => [x]
  | x :: y :: l => if x = y then ddF (y :: l) else x :: ddF (y :: l)
theorem ddF_snoc : ∀ (a : List Int) (x : Int), ddF (a ++ [x]) = if a.getLast? = some x then ddF a else ddF a ++ [x]
  | [], x => by simp [ddF]
  | [y], x => by
    by_cases h : y = x
    · simp [ddF, h]
    · simp [ddF, h]
  | y :: z :: a, x => by
    have ih := ddF_snoc (z :: a) x
    have e : (y :: z :: a).getLast? = (z :: a).getLast? := by simp [List.getLast?_cons_cons]
    rw [e]
    show ddF (y :: z :: (a ++ [x])) = _
    have e2 : z :: (a ++ [x]) = (z :: a) ++ [x] := rfl
    unfold ddF
    rw [e2, ih]
    by_cases h1 : (z :: a).getLast? = some x
    · simp only [h1, if_true]
    · simp only [h1, if_false]
      split <;> simp
theorem mem_ddF : ∀ {l : List Int} {x : Int}, x ∈ ddF l ↔ x ∈ l
  | [], x => by simp [ddF]
  | [y], x => by simp [ddF]
  | y :: z :: l, x => by
    unfold ddF
    by_cases h : y = z
    · rw [if_pos h, mem_ddF]; subst h; simp
    · rw [if_neg h, List.mem_cons, mem_ddF, List.mem_cons (a := x) (b := y)]
theorem up_ddF : ∀ {l : List Int}, l.Pairwise (· ≤ ·) → Up_ (ddF l)
  | [], _ => .nil
  | [y], _ => by simp [ddF, Up_]
  | y :: z :: l, h => by
    have h' := h
    rw [List.pairwise_cons] at h
    unfold ddF
    by_cases e : y = z
    · rw [if_pos e]; exact up_ddF h.2
    · rw [if_neg e]
      refine List.pairwise_cons.2 ⟨fun w hw => ?_, up_ddF h.2⟩
      rw [mem_ddF] at hw
      have h1 := h.1 z (List.mem_cons_self ..)
      rcases List.mem_cons.1 hw with rfl | hw
      · omega
      · have := (List.pairwise_cons.1 h.2).1 w hw; omega
theorem getLast_take {l : List Int} {k : Nat} {y : Int} (h : l[k]? = some y) : (l.take (k + 1)).getLast? = some y := by
  rw [List.take_add_one, h]; simp
theorem dd_same {l : List Int} {k : Nat} {x y : Int} (hy : l[k]? = some y) (hx : l[k + 1]? = some x) (e : x = y) : ddF (l.take (k + 1 + 1)) = ddF (l.take (k + 1)) := by
  rw [List.take_add_one, hx]
  simp only [Option.toList_some]
  rw [ddF_snoc, getLast_take hy, if_pos (by rw [e])]
theorem dd_more {l : List Int} {k : Nat} {x y : Int} (hy : l[k]? = some y) (hx : l[k + 1]? = some x) (e : ¬ x = y) : ddF (l.take (k + 1 + 1)) = ddF (l.take (k + 1)) ++ [x] := by
  rw [List.take_add_one, hx]
  simp only [Option.toList_some]
  rw [ddF_snoc, getLast_take hy, if_neg (by intro h; injection h with h; exact e h.symm)]
theorem drop_step {m l : List Int} {n : Nat} (hd : m.drop n = l.drop n) : m.drop (n + 1) = l.drop (n + 1) := by
  have := congrArg (List.drop 1) hd
  rwa [List.drop_drop, List.drop_drop] at this
set_option maxRecDepth 100000 in
theorem compact_c (l : List Int) (v : Value) (h : Heap) (hl : l.length ≤ 1000000) :
    ACalls Tryz.prog 161 [.val v] (.own v 1 (ints .i64 l) 3 :: h) (fun r h' => ∃ w, r = .val w ∧ h' = .own w 1 (ints .i64 (ddF l)) 3 :: h) := by
  refine ACalls.intro Tryz.func161 rfl Tryz.ntmps161 Tryz.results161 (Nat.le_of_ble_eq_true rfl) ?_
  by_cases h2 : l.length < 2
  · have e : ddF l = l := by
      match l, h2 with
      | [], _ => rfl
      | [x], _ => rfl
      | x :: y :: l, h => simp at h; omega
    rw [e]
    (repeat' (first|refine svz ⟨fun b hq=>?_⟩|refine svA ⟨?_⟩|refine svu ⟨fun u=>?_⟩|(refine svG (fun hg=>?_) (fun hg=>?_)<;>try exact svx)|refine svh (fun hb=>?_) (fun hb=>?_)|refine svb (fun b=>?_)|fail))
    exact fin_r (h' := _) ⟨v, rfl, rfl⟩
  obtain ⟨z0, hz0⟩ : ∃ z, l[0]? = some z := ⟨_, List.getElem?_eq_getElem (by omega)⟩
  (repeat' (first|refine svz ⟨fun b hq=>?_⟩|refine svA ⟨?_⟩|refine svu ⟨fun u=>?_⟩|(refine svG (fun hg=>?_) (fun hg=>?_)<;>try exact svx)|refine svh (fun hb=>?_) (fun hb=>?_)|refine svb (fun b=>?_)|fail))
  refine W.loop (J := fun k : Nat => ⟨61, [(3, .val (.int .i64 (k : Int))), (0, .val v)], .own v 1 (ints .i64 l) 3 :: h⟩)
    (Φ := fun k => 1 ≤ k ∧ k ≤ l.length ∧ ddF (l.take k) = l.take k) (μ := fun k => l.length - k) 1 lee ⟨Nat.le_refl _, by omega, by rw [List.take_add_one, hz0]; rfl⟩ ?_
  rintro k ⟨h1, hk, hdd⟩
  obtain ⟨j, rfl⟩ : ∃ j, k = j + 1 := ⟨k - 1, by omega⟩
  rcases Nat.lt_or_ge (j + 1) l.length with hlt | hge
  · obtain ⟨x, hx⟩ : ∃ x, l[j + 1]? = some x := ⟨_, List.getElem?_eq_getElem hlt⟩
    obtain ⟨y, hy⟩ : ∃ y, l[j]? = some y := ⟨_, List.getElem?_eq_getElem (by omega)⟩
    have hyy : l[((↑(j + 1) : Int) - 1).toNat]'(by omega) = y := Option.some.inj ((List.getElem?_eq_getElem _).symm.trans (by rw [show ((↑(j + 1) : Int) - 1).toNat = j by omega]; exact hy))
    by_cases hxy : x = y
    · (repeat' (first|refine svz ⟨fun b hq=>?_⟩|refine svA ⟨?_⟩|refine svu ⟨fun u=>?_⟩|(refine svG (fun hg=>?_) (fun hg=>?_)<;>try exact svx)|refine svh (fun hb=>?_) (fun hb=>?_)|refine svb (fun b=>?_)|fail))
      rw [len_ints]
      refine W.loop (J := fun q : Nat × Nat × List Int => ⟨61, [(5, .val (.int .i64 (q.1 : Int))), (4, .vw v 1 (j + 1) (l.length - (j + 1))), (3, .val (.int .i64 (q.2.1 : Int))), (0, .val v)], .own v 1 (ints .i64 q.2.2) 3 :: h⟩)
        (Φ := fun q => 1 ≤ q.1 ∧ j + 1 + q.1 ≤ l.length ∧ 1 ≤ q.2.1 ∧ q.2.1 + 1 ≤ j + 1 + q.1 ∧ q.2.2.length = l.length ∧ q.2.2.drop (j + q.1) = l.drop (j + q.1) ∧ q.2.2.take q.2.1 = ddF (l.take (j + 1 + q.1))) (μ := fun q => l.length - q.1)
        (1, j + 1, l) lee ⟨by dsimp only; omega, by dsimp only; omega, by dsimp only; omega, by dsimp only; omega, rfl, rfl, by dsimp only; rw [dd_same hy hx hxy, hdd]⟩ ?_
      rintro ⟨i, k, m⟩ ⟨hi1, hi2, hk1, hk2, hm, hd, ht⟩
      dsimp only at hi1 hi2 hk1 hk2 hm hd ht ⊢
      obtain ⟨c, rfl⟩ : ∃ c, i = c + 1 := ⟨i - 1, by omega⟩
      have hat : ∀ n, j + (c + 1) ≤ n → m[n]? = l[n]? := fun n hn => by
        have := congrArg (·[n - (j + (c + 1))]?) hd
        simp only [List.getElem?_drop] at this
        rwa [show j + (c + 1) + (n - (j + (c + 1))) = n by omega] at this
      rcases Nat.lt_or_ge (j + 1 + (c + 1)) l.length with hlt2 | hge2
      · obtain ⟨x2, hx2⟩ : ∃ x, l[j + 1 + (c + 1)]? = some x := ⟨_, List.getElem?_eq_getElem hlt2⟩
        obtain ⟨y2, hy2⟩ : ∃ y, l[j + 1 + c]? = some y := ⟨_, List.getElem?_eq_getElem (by omega)⟩
        have hxm : m[j + 1 + (c + 1)]? = some x2 := by rw [hat _ (by omega)]; exact hx2
        have hym : m[j + 1 + ((↑(c + 1) : Int) - 1).toNat]'(by omega) = y2 := Option.some.inj ((List.getElem?_eq_getElem _).symm.trans (by rw [show j + 1 + ((↑(c + 1) : Int) - 1).toNat = j + 1 + c by omega, hat _ (by omega)]; exact hy2))
        by_cases hxy2 : x2 = y2
        · (repeat' (first|refine svz ⟨fun b hq=>?_⟩|refine svA ⟨?_⟩|refine svu ⟨fun u=>?_⟩|(refine svG (fun hg=>?_) (fun hg=>?_)<;>try exact svx)|refine svh (fun hb=>?_) (fun hb=>?_)|refine svb (fun b=>?_)|fail))
          refine ⟨(c + 1 + 1, k, m), ⟨by dsimp only; omega, by dsimp only; omega, hk1, by dsimp only; omega, hm, ?_, ?_⟩, lee, by dsimp only; omega⟩
          · dsimp only
            exact drop_step (n := j + (c + 1)) hd
          · dsimp only
            rw [ht]
            exact (dd_same hy2 hx2 hxy2).symm
        · (repeat' (first|refine svz ⟨fun b hq=>?_⟩|refine svA ⟨?_⟩|refine svu ⟨fun u=>?_⟩|(refine svG (fun hg=>?_) (fun hg=>?_)<;>try exact svx)|refine svh (fun hb=>?_) (fun hb=>?_)|refine svb (fun b=>?_)|fail))
          refine ⟨(c + 1 + 1, k + 1, m.set k x2), ⟨by dsimp only; omega, by dsimp only; omega, by dsimp only; omega, by dsimp only; omega, by simpa using hm, ?_, ?_⟩, by dsimp only; rw [← ints_set]; exact lee, by dsimp only; omega⟩
          · dsimp only
            rw [List.drop_set_of_lt (by omega)]
            exact drop_step (n := j + (c + 1)) hd
          · dsimp only
            have := dd_more hy2 hx2 hxy2
            rw [show j + 1 + (c + 1 + 1) = j + 1 + c + 1 + 1 by omega, this, show j + 1 + c + 1 = j + 1 + (c + 1) by omega, ← ht, List.take_set, List.take_add_one, List.getElem?_eq_getElem (by omega)]
            simp only [Option.toList_some]
            rw [List.set_append_right _ _ (by rw [List.length_take]; omega)]
            have : k - (List.take k m).length = 0 := by rw [List.length_take]; omega
            rw [this]; rfl
      · have hg : j + 1 + (c + 1) = l.length := by omega
        rw [hg, List.take_length] at ht
        (repeat' (first|refine svz ⟨fun b hq=>?_⟩|refine svA ⟨?_⟩|refine svu ⟨fun u=>?_⟩|(refine svG (fun hg=>?_) (fun hg=>?_)<;>try exact svx)|refine svh (fun hb=>?_) (fun hb=>?_)|refine svb (fun b=>?_)|fail))
        refine S.clear ?_
        (repeat' ((fail_if_success (refine iS ?_; refine iSl ?_)); (first|refine svz ⟨fun b hq=>?_⟩|refine svA ⟨?_⟩|refine svu ⟨fun u=>?_⟩|(refine svG (fun hg=>?_) (fun hg=>?_)<;>try exact svx)|refine svh (fun hb=>?_) (fun hb=>?_)|refine svb (fun b=>?_)|fail)))
        refine S.trunc (hi := k) (fun w => ?_)
        (repeat' (first|refine svz ⟨fun b hq=>?_⟩|refine svA ⟨?_⟩|refine svu ⟨fun u=>?_⟩|(refine svG (fun hg=>?_) (fun hg=>?_)<;>try exact svx)|refine svh (fun hb=>?_) (fun hb=>?_)|refine svb (fun b=>?_)|fail))
        have e2 : ∀ ys, (splice (ints .i64 m) k ys).take k = ints .i64 (ddF l) := fun ys => by rw [take_splice0 (by rw [len_ints]; omega), ← ht]; simp [ints]
        refine fin_r (h' := .own w 1 (ints .i64 (ddF l)) 3 :: h) ⟨w, rfl, rfl⟩ (h2 := ?_)
        dsimp only
        rw [e2]
        exact (by repeat (first | exact LeH.refl _ | exact LeH.nil _ | refine LeH.cons (by (fail_if_success (apply tkG)); (repeat (first | exact Tk.here | apply Tk.there)); first | done | fail) ?_ | refine LeH.boxw (by (fail_if_success (apply tkG)); (repeat (first | exact Tk.here | apply Tk.there)); first | done | fail) (by (repeat (first | exact Wk.refl _ | exact Wk.nilr _ | exact Wk.nilm | apply Wk.aggc | apply Wk.tupc | exact Wk.aggn | exact Wk.tupn)); first | done | fail) ?_ | refine LeH.skip ?_))
    · (repeat' (first|refine svz ⟨fun b hq=>?_⟩|refine svA ⟨?_⟩|refine svu ⟨fun u=>?_⟩|(refine svG (fun hg=>?_) (fun hg=>?_)<;>try exact svx)|refine svh (fun hb=>?_) (fun hb=>?_)|refine svb (fun b=>?_)|fail))
      exact ⟨j + 1 + 1, ⟨by omega, hlt, by rw [dd_more hy hx hxy, hdd, List.take_add_one (i := j + 1), hx]; rfl⟩, lee, by omega⟩
  · have e : ddF l = l := by rw [List.take_of_length_le hge] at hdd; exact hdd
    rw [e]
    (repeat' (first|refine svz ⟨fun b hq=>?_⟩|refine svA ⟨?_⟩|refine svu ⟨fun u=>?_⟩|(refine svG (fun hg=>?_) (fun hg=>?_)<;>try exact svx)|refine svh (fun hb=>?_) (fun hb=>?_)|refine svb (fun b=>?_)|fail))
    exact fin_r (h' := _) ⟨v, rfl, rfl⟩
end Go.Proofs.YtbknacpdcdkjiaaGreat
