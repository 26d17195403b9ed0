/- band's edges, alike, spans. No condition. -/
import Derived.Test.YtbknacpdcdkjiaaGreatB11
import Derived.Test.YtbknacpdcdkjiaaGreatB7
namespace Go.Proofs.YtbknacpdcdkjiaaGreat
open Go Go.VM
attribute [local irreducible] PurV Pur Step RL W D ACalls Then InBlock Fini
set_option linter.unusedVariables false
set_option linter.unusedSimpArgs false
set_option maxHeartbeats 20000000
def ends (l : List RC) : List Int := l.flatMap fun r => [r.y, r.y + r.h]
theorem len_ends (l : List RC) : (ends l).length = 2 * l.length := by
  unfold ends
  induction l with
  | nil => rfl
  | cons r l ih => rw [List.flatMap_cons, List.length_append, ih]; simp; omega
theorem ends_snoc {l : List RC} {k : Nat} {r : RC} (hx : l[k]? = some r) : ends (l.take (k + 1)) = ends (l.take k) ++ [r.y, r.y + r.h] := by
  unfold ends; rw [List.take_add_one, hx, List.flatMap_append]; simp
def edF (l : List RC) : List Int := ddF (srt (ends l))
theorem up_edF (l : List RC) : Up_ (edF l) := up_ddF (srt_sorted _)
theorem mem_edF {l : List RC} {y : Int} : y ∈ edF l ↔ ∃ r ∈ l, y = r.y ∨ y = r.y + r.h := by
  unfold edF
  rw [mem_ddF, (srt_perm _).mem_iff]
  unfold ends
  rw [List.mem_flatMap]
  constructor
  · rintro ⟨r, h1, h2⟩; exact ⟨r, h1, by simpa using h2⟩
  · rintro ⟨r, h1, h2⟩; exact ⟨r, h1, by simpa using h2⟩
theorem len_edF (l : List RC) : (edF l).length ≤ 2 * l.length := by
  have h : ∀ a : List Int, (ddF a).length ≤ a.length := by
    intro a
    induction a using ddF.induct with
    | case1 => simp [ddF]
    | case2 x => simp [ddF]
    | case3 x l ih => unfold ddF; rw [if_pos rfl]; simp only [List.length_cons] at *; omega
    | case4 x y l hne ih => unfold ddF; rw [if_neg hne]; simp only [List.length_cons] at *; omega
  refine Nat.le_trans (h _) ?_
  rw [(srt_perm _).length_eq, len_ends]
  exact Nat.le_refl _
set_option maxRecDepth 100000 in
theorem bedges_c (l : List RC) (h : Heap) (hl : l.length ≤ 300000) (hc : ∀ r ∈ l, r.cnt) : ACalls Tryz.prog 135 [.ro 4 (l.map RC.enc)] h (fun r h' => ∃ w, r = .val w ∧ h' = .own w 1 (ints .i64 (edF l)) 3 :: h) := by
  refine ACalls.intro Tryz.func135 rfl Tryz.ntmps135 Tryz.results135 (Nat.le_of_ble_eq_true rfl) ?_
  (repeat' (first|refine svz ⟨fun b hq=>?_⟩|refine svA ⟨?_⟩|refine svu ⟨fun u=>?_⟩|(refine svG (fun hg=>?_) (fun hg=>?_)<;>try exact svx)|refine svh (fun hb=>?_) (fun hb=>?_)|refine svb (fun b=>?_)|fail))
  revert u; intro v0
  refine W.loop (J := fun x : Nat × Value => ⟨31, [(12, .val (.int .i64 (x.1 : Int))), (11, .val (.int .i64 (l.length : Int))), (10, .ro 4 (l.map RC.enc)), (3, .val x.2)], .own x.2 1 (ints .i64 (ends (l.take x.1))) 3 :: h⟩)
    (Φ := fun x => x.1 ≤ l.length) (μ := fun x => l.length - x.1) (0, v0) lee (Nat.zero_le _) ?_
  rintro ⟨k, v⟩ hk
  dsimp only at hk ⊢
  rcases Nat.lt_or_ge k l.length with hlt | hge
  · obtain ⟨r, hx⟩ : ∃ r, l[k]? = some r := ⟨_, List.getElem?_eq_getElem hlt⟩
    obtain ⟨⟨a1, a2, a3⟩, ⟨a4, a5, a6⟩⟩ := hc r (List.mem_of_getElem? hx)
    have hln := len_ends (l.take k)
    rw [List.length_take] at hln
    (repeat' (first|refine svz ⟨fun b hq=>?_⟩|refine svA ⟨?_⟩|refine svu ⟨fun u=>?_⟩|(refine svG (fun hg=>?_) (fun hg=>?_)<;>try exact svx)|refine svh (fun hb=>?_) (fun hb=>?_)|refine svb (fun b=>?_)|fail))
    exact ⟨(k + 1, u), hlt, by dsimp only; rw [ends_snoc hx, ints_append]; exact lee, by dsimp only; omega⟩
  · have hkl : k = l.length := by omega
    subst hkl
    rw [List.take_length]
    have hln := len_ends l
    (repeat' (first|refine svz ⟨fun b hq=>?_⟩|refine svA ⟨?_⟩|refine svu ⟨fun u=>?_⟩|(refine svG (fun hg=>?_) (fun hg=>?_)<;>try exact svx)|refine svh (fun hb=>?_) (fun hb=>?_)|refine svb (fun b=>?_)|fail))
    refine S.call ?_
    refine (sort_c (ends l) v h (by omega)).mono ?_
    rintro r h' ⟨rfl, hh⟩; subst hh
    (repeat' (first|refine svz ⟨fun b hq=>?_⟩|refine svA ⟨?_⟩|refine svu ⟨fun u=>?_⟩|(refine svG (fun hg=>?_) (fun hg=>?_)<;>try exact svx)|refine svh (fun hb=>?_) (fun hb=>?_)|refine svb (fun b=>?_)|fail))
    refine S.call ?_
    refine (compact_c (srt (ends l)) v h (by rw [(srt_perm _).length_eq]; omega)).mono ?_
    rintro r h' ⟨w, rfl, hh⟩; subst hh
    (repeat' (first|refine svz ⟨fun b hq=>?_⟩|refine svA ⟨?_⟩|refine svu ⟨fun u=>?_⟩|(refine svG (fun hg=>?_) (fun hg=>?_)<;>try exact svx)|refine svh (fun hb=>?_) (fun hb=>?_)|refine svb (fun b=>?_)|fail))
    exact fin_r (h' := _) ⟨w, rfl, rfl⟩
instance : TFun Tryz.prog 165 := ⟨by kernel_rfl⟩
set_option maxRecDepth 100000 in
theorem balike_c (l m : List RC) (h : Heap) (hc : ∀ r ∈ l, r.cnt) : ACalls Tryz.prog 140 [.ro 4 (l.map RC.enc), .ro 4 (m.map RC.enc)] h (fun r h' => r = .val (.bool (decide (0 < l.length) && eqF (fun a b => decide (goesOn a b)) l m)) ∧ h' = h) := by
  refine ACalls.intro Tryz.func140 rfl Tryz.ntmps140 Tryz.results140 (Nat.le_of_ble_eq_true rfl) ?_
  refine W.len 0 rfl (fun ha => ?_); simp only [ints, splice, List.length_map, List.length_append, List.length_cons, List.length_nil, List.length_take, List.length_drop, List.length_set, List.length_replicate] at ha
  by_cases h0 : 0 < l.length
  · rw [decide_eq_true h0, Bool.true_and]
    (repeat' (first|refine svz ⟨fun b hq=>?_⟩|refine svA ⟨?_⟩|refine svu ⟨fun u=>?_⟩|(refine svG (fun hg=>?_) (fun hg=>?_)<;>try exact svx)|refine svh (fun hb=>?_) (fun hb=>?_)|refine svb (fun b=>?_)|fail))
    refine S.call ?_; refine (equalfunc_c (fun a b => decide (goesOn a b)) l m (Fv.fn _) h (fun r hr s => same1_c r s h (hc r hr))).mono ?_; rintro r h' ⟨rfl, hh⟩; subst hh
    (repeat' (first|refine svz ⟨fun b hq=>?_⟩|refine svA ⟨?_⟩|refine svu ⟨fun u=>?_⟩|(refine svG (fun hg=>?_) (fun hg=>?_)<;>try exact svx)|refine svh (fun hb=>?_) (fun hb=>?_)|refine svb (fun b=>?_)|fail))
    exact fin_r (h' := _) ⟨rfl, rfl⟩
  · rw [decide_eq_false h0, Bool.false_and]
    (repeat' (first|refine svz ⟨fun b hq=>?_⟩|refine svA ⟨?_⟩|refine svu ⟨fun u=>?_⟩|(refine svG (fun hg=>?_) (fun hg=>?_)<;>try exact svx)|refine svh (fun hb=>?_) (fun hb=>?_)|refine svb (fun b=>?_)|fail))
    exact fin_r (h' := _) ⟨rfl, rfl⟩
set_option maxRecDepth 100000 in
theorem spans_c (v : Value) (h : Heap) : ACalls Tryz.prog 139 [.val v] h (fun r h' => ∃ g, r = .clo (.func 163) [.val (.pointer (some ⟨g, 0, none⟩))] ∧ h' = .box g [.val v] 112 :: h) := by
  refine ACalls.intro Tryz.func139 rfl Tryz.ntmps139 Tryz.results139 (Nat.le_of_ble_eq_true rfl) ?_
  (repeat' (first|refine svz ⟨fun b hq=>?_⟩|refine svA ⟨?_⟩|refine svu ⟨fun u=>?_⟩|(refine svG (fun hg=>?_) (fun hg=>?_)<;>try exact svx)|refine svh (fun hb=>?_) (fun hb=>?_)|refine svb (fun b=>?_)|fail))
  exact fin_r (h' := _) ⟨_, rfl, rfl⟩
def spGo (f t : Int) : List RC → List (Int × Int)
  | [] => [(f, t)]
  | r :: l => if r.x ≤ t then spGo f (max t (r.x + r.w)) l else (f, t) :: spGo r.x (r.x + r.w) l
def spF : List RC → List (Int × Int)
  | [] => []
  | r :: l => spGo r.x (r.x + r.w) l
theorem spGo_end {f t : Int} {l : List RC} (h : ∀ r, l[0]? = some r → ¬ r.x ≤ t) : spGo f t l = (f, t) :: spF l := by
  cases l with
  | nil => rfl
  | cons r l => unfold spGo; rw [if_neg (h r rfl)]; rfl
def spE (s : Int × Int) : AV := .agg [.val (.int .i64 s.1), .val (.int .i64 s.2)]
theorem drop_at {α : Type} {l : List α} {i : Nat} {r : α} (h : l[i]? = some r) : l.drop i = r :: l.drop (i + 1) := by
  have hlt := (List.getElem?_eq_some_iff.1 h).1
  rw [List.drop_eq_getElem_cons hlt]
  congr 1
  exact Option.some.inj ((List.getElem?_eq_getElem hlt).symm.trans h)
set_option maxRecDepth 100000 in
theorem spans_iter (l : List RC) (v : Value) (e g : Nat) (hl : l.length ≤ 1000000) (hcn : ∀ r ∈ l, r.cnt) :
    Iter Tryz.prog 163 [.val (.pointer (some ⟨g, 0, none⟩))] [.box g [.val v] 112, .own v 4 (l.map RC.enc) e] ((spF l).map fun s => [spE s]) := by
  intro lp R Z hy h h0
  refine ACalls.intro Tryz.func163 rfl Tryz.ntmps163 Tryz.results163 (Nat.le_of_ble_eq_true rfl) ?_
  show W none _ _ _ ⟨_, _, .box g [.val v] 112 :: .own v 4 (l.map RC.enc) e :: h⟩
  (repeat' (first|refine svz ⟨fun b hq=>?_⟩|refine svA ⟨?_⟩|refine svu ⟨fun u=>?_⟩|(refine svG (fun hg=>?_) (fun hg=>?_)<;>try exact svx)|refine svh (fun hb=>?_) (fun hb=>?_)|refine svb (fun b=>?_)|fail))
  refine W.loop (J := fun q : Nat × Nat × Heap => ⟨63, [(3, .val (.int .i64 (q.1 : Int))), (0, .val (.func (.yield lp) #[] #[])), (1, .val (.pointer (some ⟨g, 0, none⟩)))], .box g [.val v] 112 :: .own v 4 (l.map RC.enc) e :: q.2.2⟩)
    (Φ := fun q => q.1 ≤ l.length ∧ R q.2.1 q.2.2 ∧ spF (l.drop q.1) = (spF l).drop q.2.1 ∧ q.2.1 ≤ (spF l).length) (μ := fun q => l.length - q.1) (0, 0, h) lee ⟨Nat.zero_le _, h0, rfl, Nat.zero_le _⟩ ?_
  rintro ⟨i, k, hh⟩ ⟨hi, hR, hs, hkl⟩
  dsimp only at hi hR hs hkl ⊢
  rcases Nat.lt_or_ge i l.length with hlt | hge
  · obtain ⟨r, hx⟩ : ∃ r, l[i]? = some r := ⟨_, List.getElem?_eq_getElem hlt⟩
    obtain ⟨⟨a1, a2, a3⟩, ⟨a4, a5, a6⟩⟩ := hcn r (List.mem_of_getElem? hx)
    rw [drop_at hx] at hs
    (repeat' ((fail_if_success (refine iYd ?_)); (first|refine svz ⟨fun b hq=>?_⟩|refine svA ⟨?_⟩|refine svu ⟨fun u=>?_⟩|(refine svG (fun hg=>?_) (fun hg=>?_)<;>try exact svx)|refine svh (fun hb=>?_) (fun hb=>?_)|refine svb (fun b=>?_)|fail)))
    revert b; intro b4
    refine W.loop (J := fun q : Nat × Int => ⟨63, [(3, .val (.int .i64 (q.1 : Int))), (4, .val (.pointer (some ⟨b4, 0, none⟩))), (0, .val (.func (.yield lp) #[] #[])), (1, .val (.pointer (some ⟨g, 0, none⟩)))], .box b4 [.val (.int .i64 r.x), .val (.int .i64 q.2)] 251 :: .box g [.val v] 112 :: .own v 4 (l.map RC.enc) e :: hh⟩)
      (Φ := fun q => q.1 ≤ l.length ∧ i < q.1 ∧ spGo r.x q.2 (l.drop q.1) = (spF l).drop k) (μ := fun q => l.length - q.1) (i + 1, r.x + r.w) lee ⟨hlt, by dsimp only; omega, hs⟩ ?_
    rintro ⟨j, z⟩ ⟨hj, hij, hs2⟩
    dsimp only at hj hij hs2 ⊢
    have fin : (∀ s, (l.drop j)[0]? = some s → ¬ s.x ≤ z) → ((spF l).map fun s => [spE s])[k]? = some [spE (r.x, z)] ∧ spF (l.drop j) = (spF l).drop (k + 1) ∧ k + 1 ≤ (spF l).length := fun hne => by
      rw [spGo_end hne] at hs2
      have e0 := congrArg (·[0]?) hs2
      simp only [List.getElem?_cons_zero, List.getElem?_drop, Nat.add_zero] at e0
      have e1 := congrArg (List.drop 1) hs2
      rw [List.drop_drop, List.drop_one, List.tail_cons] at e1
      exact ⟨by rw [List.getElem?_map, ← e0]; rfl, e1, (List.getElem?_eq_some_iff.1 e0.symm).1⟩
    rcases Nat.lt_or_ge j l.length with hjl | hjg
    · obtain ⟨s, hy2⟩ : ∃ s, l[j]? = some s := ⟨_, List.getElem?_eq_getElem hjl⟩
      obtain ⟨⟨c1, c2, c3⟩, ⟨c4, c5, c6⟩⟩ := hcn s (List.mem_of_getElem? hy2)
      by_cases hsz : s.x ≤ z
      · (repeat' ((fail_if_success (refine iYd ?_)); (first|refine svz ⟨fun b hq=>?_⟩|refine svA ⟨?_⟩|refine svu ⟨fun u=>?_⟩|(refine svG (fun hg=>?_) (fun hg=>?_)<;>try exact svx)|refine svh (fun hb=>?_) (fun hb=>?_)|refine svb (fun b=>?_)|fail)))
        refine ⟨(j + 1, max z (s.x + s.w)), ⟨hjl, by dsimp only; omega, ?_⟩, lee, by dsimp only; omega⟩
        dsimp only
        rw [drop_at hy2, spGo, if_pos hsz] at hs2
        exact hs2
      · obtain ⟨f1, f2, f3⟩ := fin (fun s' hs' => by rw [List.getElem?_drop, Nat.add_zero, hy2] at hs'; injection hs' with hs'; subst hs'; exact hsz)
        (repeat' ((fail_if_success (refine iYd ?_)); (first|refine svz ⟨fun b hq=>?_⟩|refine svA ⟨?_⟩|refine svu ⟨fun u=>?_⟩|(refine svG (fun hg=>?_) (fun hg=>?_)<;>try exact svx)|refine svh (fun hb=>?_) (fun hb=>?_)|refine svb (fun b=>?_)|fail)))
        refine RL.yield ((hy k _ hh hR f1).keep3.mono ?_)
        rintro bb h' ⟨h1, (⟨rfl, hR'⟩ | ⟨rfl, hZ⟩), rfl⟩
        · (repeat' ((fail_if_success (refine iYd ?_)); (first|refine svz ⟨fun b hq=>?_⟩|refine svA ⟨?_⟩|refine svu ⟨fun u=>?_⟩|(refine svG (fun hg=>?_) (fun hg=>?_)<;>try exact svx)|refine svh (fun hb=>?_) (fun hb=>?_)|refine svb (fun b=>?_)|fail)))
          exact ⟨(j, k + 1, h1), ⟨hj, hR', f2, f3⟩, lee, by dsimp only; omega⟩
        · (repeat' ((fail_if_success (refine iYd ?_)); (first|refine svz ⟨fun b hq=>?_⟩|refine svA ⟨?_⟩|refine svu ⟨fun u=>?_⟩|(refine svG (fun hg=>?_) (fun hg=>?_)<;>try exact svx)|refine svh (fun hb=>?_) (fun hb=>?_)|refine svb (fun b=>?_)|fail)))
          exact fin_r (h' := .box g [.val v] 112 :: .own v 4 (l.map RC.enc) e :: h1) ⟨h1, rfl, .inr hZ⟩
    · obtain ⟨f1, f2, f3⟩ := fin (fun s' hs' => by rw [List.drop_of_length_le hjg] at hs'; cases hs')
      (repeat' ((fail_if_success (refine iYd ?_)); (first|refine svz ⟨fun b hq=>?_⟩|refine svA ⟨?_⟩|refine svu ⟨fun u=>?_⟩|(refine svG (fun hg=>?_) (fun hg=>?_)<;>try exact svx)|refine svh (fun hb=>?_) (fun hb=>?_)|refine svb (fun b=>?_)|fail)))
      refine RL.yield ((hy k _ hh hR f1).keep3.mono ?_)
      rintro bb h' ⟨h1, (⟨rfl, hR'⟩ | ⟨rfl, hZ⟩), rfl⟩
      · (repeat' ((fail_if_success (refine iYd ?_)); (first|refine svz ⟨fun b hq=>?_⟩|refine svA ⟨?_⟩|refine svu ⟨fun u=>?_⟩|(refine svG (fun hg=>?_) (fun hg=>?_)<;>try exact svx)|refine svh (fun hb=>?_) (fun hb=>?_)|refine svb (fun b=>?_)|fail)))
        exact ⟨(j, k + 1, h1), ⟨hj, hR', f2, f3⟩, lee, by dsimp only; omega⟩
      · (repeat' ((fail_if_success (refine iYd ?_)); (first|refine svz ⟨fun b hq=>?_⟩|refine svA ⟨?_⟩|refine svu ⟨fun u=>?_⟩|(refine svG (fun hg=>?_) (fun hg=>?_)<;>try exact svx)|refine svh (fun hb=>?_) (fun hb=>?_)|refine svb (fun b=>?_)|fail)))
        exact fin_r (h' := .box g [.val v] 112 :: .own v 4 (l.map RC.enc) e :: h1) ⟨h1, rfl, .inr hZ⟩
  · rw [List.drop_of_length_le hge] at hs
    have hlen : (spF l).length ≤ k := by
      have := congrArg List.length hs
      simp only [List.length_drop] at this
      show _ ≤ k
      have e0 : (spF []).length = 0 := rfl
      omega
    have hkk : k = (spF l).length := by omega
    subst hkk
    (repeat' ((fail_if_success (refine iYd ?_)); (first|refine svz ⟨fun b hq=>?_⟩|refine svA ⟨?_⟩|refine svu ⟨fun u=>?_⟩|(refine svG (fun hg=>?_) (fun hg=>?_)<;>try exact svx)|refine svh (fun hb=>?_) (fun hb=>?_)|refine svb (fun b=>?_)|fail)))
    exact fin_n (h' := .box g [.val v] 112 :: .own v 4 (l.map RC.enc) e :: hh) ⟨hh, rfl, .inl (by rw [List.length_map]; exact hR)⟩
end Go.Proofs.YtbknacpdcdkjiaaGreat
