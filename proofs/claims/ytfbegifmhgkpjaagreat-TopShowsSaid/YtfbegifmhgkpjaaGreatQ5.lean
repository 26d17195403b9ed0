/- Trees: Has, Parent, Path, other; New; maps.Copy. No condition. -/
import Derived.Test.YtfbegifmhgkpjaaGreatVM35
namespace Go.Proofs.YtfbegifmhgkpjaaGreat
open Go Go.VM
attribute [local irreducible] PurV Pur Step RL W D ACalls Then InBlock Fini
set_option linter.unusedVariables false
set_option linter.unusedSimpArgs false
set_option maxHeartbeats 20000000
abbrev UP := List (Int × Int)
def encT (k : SVT) (up : UP) : AV := .agg [mapV .u32 vIds k, mapV .u32 (vI .u32) up]
def hasT (up : UP) (id : Int) : Bool := (lkF up id).isSome || decide (id = 1)
set_option maxRecDepth 100000 in
theorem thas_c (k : SVT) (up : UP) (id : Int) (h : Heap) : ACalls Tryz.prog 66 [encT k up, .val (.int .u32 (id))] h (fun r h' => r = .val (.bool (hasT up id)) ∧ h' = h) := by
  unfold encT hasT
  cases hb : (lkF up id).isSome
  · refine ACalls.intro Tryz.func66 rfl Tryz.ntmps66 Tryz.results66 (Nat.le_of_ble_eq_true rfl) ?_
    (repeat' (first|refine svz ⟨fun b hq=>?_⟩|refine svA ⟨?_⟩|refine svu ⟨fun u=>?_⟩|(refine svG (fun hg=>?_) (fun hg=>?_)<;>try exact svx)|refine svh (fun hb=>?_) (fun hb=>?_)|refine svb (fun b=>?_)|fail))
    rw [hb]
    (repeat' (first|refine svz ⟨fun b hq=>?_⟩|refine svA ⟨?_⟩|refine svu ⟨fun u=>?_⟩|(refine svG (fun hg=>?_) (fun hg=>?_)<;>try exact svx)|refine svh (fun hb=>?_) (fun hb=>?_)|refine svb (fun b=>?_)|fail))
    exact fin_r (h' := h) ⟨rfl, rfl⟩
  · refine ACalls.intro Tryz.func66 rfl Tryz.ntmps66 Tryz.results66 (Nat.le_of_ble_eq_true rfl) ?_
    (repeat' (first|refine svz ⟨fun b hq=>?_⟩|refine svA ⟨?_⟩|refine svu ⟨fun u=>?_⟩|(refine svG (fun hg=>?_) (fun hg=>?_)<;>try exact svx)|refine svh (fun hb=>?_) (fun hb=>?_)|refine svb (fun b=>?_)|fail))
    rw [hb]
    (repeat' (first|refine svz ⟨fun b hq=>?_⟩|refine svA ⟨?_⟩|refine svu ⟨fun u=>?_⟩|(refine svG (fun hg=>?_) (fun hg=>?_)<;>try exact svx)|refine svh (fun hb=>?_) (fun hb=>?_)|refine svb (fun b=>?_)|fail))
    exact fin_r (h' := h) ⟨rfl, rfl⟩
set_option maxRecDepth 100000 in
theorem parent_c (k : SVT) (up : UP) (id : Int) (h : Heap) : ACalls Tryz.prog 11 [encT k up, .val (.int .u32 (id))] h (fun r h' => r = .tup [.val (.int .u32 ((lkF up id).getD 0)), .val (.bool (lkF up id).isSome)] ∧ h' = h) := by
  unfold encT
  refine ACalls.intro Tryz.func11 rfl Tryz.ntmps11 Tryz.results11 (Nat.le_of_ble_eq_true rfl) ?_
  (repeat' (first|refine svz ⟨fun b hq=>?_⟩|refine svA ⟨?_⟩|refine svu ⟨fun u=>?_⟩|(refine svG (fun hg=>?_) (fun hg=>?_)<;>try exact svx)|refine svh (fun hb=>?_) (fun hb=>?_)|refine svb (fun b=>?_)|fail))
  exact fin_r (h' := h) ⟨rfl, rfl⟩
inductive Pth (up : UP) : Int → List Int → Prop
  | root : Pth up 1 []
  | up {id p : Int} {R : List Int} (h1 : id ≠ 1) (h : lkF up id = some p) (r : Pth up p R) : Pth up id (p :: R)
theorem Pth.has {up : UP} {id : Int} {R : List Int} (h : Pth up id R) : hasT up id = true := by
  cases h with
  | root => unfold hasT; simp
  | up h1 h r => unfold hasT; rw [h]; rfl
set_option maxRecDepth 100000 in
theorem path_c (k : SVT) (up : UP) (id : Int) (R : List Int) (h : Heap) (hp : Pth up id R) (hR : R.length ≤ 1000000) : ACalls Tryz.prog 82 [encT k up, .val (.int .u32 (id))] h (fun r h' => r = .ro 1 (ints .u32 (id :: R)) ∧ h' = h) := by
  have th := fun h => thas_c k up id h
  rw [hp.has] at th
  refine ACalls.frz (Q := fun r h' => ∃ v, r = .val v ∧ h' = .own v 1 (ints .u32 (id :: R)) 57 :: h) ?_ (by rintro r h' ⟨v, rfl, rfl⟩; exact ⟨v, 1, _, _, _, h, .here, .hit, rfl, rfl⟩)
  unfold encT at *
  refine ACalls.intro Tryz.func82 rfl Tryz.ntmps82 Tryz.results82 (Nat.le_of_ble_eq_true rfl) ?_
  (repeat' (first|refine svz ⟨fun b hq=>?_⟩|refine svA ⟨?_⟩|refine svu ⟨fun u=>?_⟩|(refine svG (fun hg=>?_) (fun hg=>?_)<;>try exact svx)|refine svh (fun hb=>?_) (fun hb=>?_)|refine svb (fun b=>?_)|fail))
  refine S.call ?_; refine (th _).mono ?_; rintro r h' ⟨rfl, hh⟩; subst hh
  (repeat' (first|refine svz ⟨fun b hq=>?_⟩|refine svA ⟨?_⟩|refine svu ⟨fun u=>?_⟩|(refine svG (fun hg=>?_) (fun hg=>?_)<;>try exact svx)|refine svh (fun hb=>?_) (fun hb=>?_)|refine svb (fun b=>?_)|fail))
  revert b; intro b2
  refine W.loop (J := fun z : Int × List Int × List Int × Value => ⟨23, [(5, .val z.2.2.2), (1, .val (.int .u32 (z.1))), (4, .val (.slice none 0 0)), (2, .val (.pointer (some ⟨b2, 0, none⟩)))], .own z.2.2.2 1 (ints .u32 z.2.1) 57 :: .box b2 [mapV .u32 vIds k, mapV .u32 (vI .u32) up] 28 :: h⟩)
    (Φ := fun z => Pth up z.1 z.2.2.1 ∧ z.2.1 ++ z.2.2.1 = id :: R) (μ := fun z => z.2.2.1.length) (id, [id], R, u) lee ⟨hp, rfl⟩ ?_
  rintro ⟨x, D, L, v⟩ ⟨hpx, hD⟩
  dsimp only at hpx hD ⊢
  have hDl : D.length ≤ 1000001 := by
    have := congrArg List.length hD
    rw [List.length_append, List.length_cons] at this
    omega
  cases hpx with
  | root =>
    rw [List.append_nil] at hD
    subst hD
    (repeat' (first|refine svz ⟨fun b hq=>?_⟩|refine svA ⟨?_⟩|refine svu ⟨fun u=>?_⟩|(refine svG (fun hg=>?_) (fun hg=>?_)<;>try exact svx)|refine svh (fun hb=>?_) (fun hb=>?_)|refine svb (fun b=>?_)|fail))
    exact fin_r (h' := .own v 1 (ints .u32 (id :: R)) 57 :: h) ⟨v, rfl, rfl⟩
  | @up _ q L h1 h2 r =>
    have e : (lkF up x).getD 0 = q := by rw [h2]; rfl
    (repeat' (first | (refine iR2 ?_; refine r2b ?_; refine R2.one ?_) | (refine iS ?_; refine iN ?_; refine S.build1r ?_) | (refine iS ?_; refine iMu ?_; refine S.mapU ?_) | refine svz ⟨fun b hq=>?_⟩|refine svT ⟨?_⟩|refine svu ⟨fun u=>?_⟩|(refine svG (fun hg=>?_) (fun hg=>?_)<;>try exact svx)|refine svh (fun hb=>?_) (fun hb=>?_)|refine svb (fun b=>?_) | refine sva ?_ | refine sv3 ?_ | fail))
    rw [e]
    refine ⟨(q, D ++ [q], L, u), ⟨r, by dsimp only; rw [List.append_assoc]; exact hD⟩, ?_, by dsimp only; simp⟩
    dsimp only
    rw [show ints .u32 (D ++ [q]) = ints .u32 D ++ [.val (.int .u32 q)] by simp [ints]]
    exact lee
def othF (up : UP) (id : Int) : Int := if id = 1 then 23 else if hasT up id = true then 0 else 6
set_option maxRecDepth 100000 in
theorem other_c (k : SVT) (up : UP) (id : Int) (h : Heap) : ACalls Tryz.prog 46 [encT k up, .val (.int .u32 (id))] h (fun r h' => r = .val (.int .i64 (othF up id)) ∧ h' = h) := by
  have th := fun h => thas_c k up id h
  unfold othF
  by_cases h1 : id = 1
  · rw [if_pos h1]
    unfold encT at *
    refine ACalls.intro Tryz.func46 rfl Tryz.ntmps46 Tryz.results46 (Nat.le_of_ble_eq_true rfl) ?_
    (repeat' (first|refine svz ⟨fun b hq=>?_⟩|refine svA ⟨?_⟩|refine svu ⟨fun u=>?_⟩|(refine svG (fun hg=>?_) (fun hg=>?_)<;>try exact svx)|refine svh (fun hb=>?_) (fun hb=>?_)|refine svb (fun b=>?_)|fail))
    exact fin_r (h' := h) ⟨rfl, rfl⟩
  rw [if_neg h1]
  cases hb : hasT up id
  · rw [hb] at th
    unfold encT at *
    refine ACalls.intro Tryz.func46 rfl Tryz.ntmps46 Tryz.results46 (Nat.le_of_ble_eq_true rfl) ?_
    (repeat' (first|refine svz ⟨fun b hq=>?_⟩|refine svA ⟨?_⟩|refine svu ⟨fun u=>?_⟩|(refine svG (fun hg=>?_) (fun hg=>?_)<;>try exact svx)|refine svh (fun hb=>?_) (fun hb=>?_)|refine svb (fun b=>?_)|fail))
    refine S.call ?_; refine (th _).mono ?_; rintro r h' ⟨rfl, hh⟩; subst hh
    (repeat' (first|refine svz ⟨fun b hq=>?_⟩|refine svA ⟨?_⟩|refine svu ⟨fun u=>?_⟩|(refine svG (fun hg=>?_) (fun hg=>?_)<;>try exact svx)|refine svh (fun hb=>?_) (fun hb=>?_)|refine svb (fun b=>?_)|fail))
    exact fin_r (h' := _) ⟨rfl, rfl⟩
  · rw [hb] at th
    unfold encT at *
    refine ACalls.intro Tryz.func46 rfl Tryz.ntmps46 Tryz.results46 (Nat.le_of_ble_eq_true rfl) ?_
    (repeat' (first|refine svz ⟨fun b hq=>?_⟩|refine svA ⟨?_⟩|refine svu ⟨fun u=>?_⟩|(refine svG (fun hg=>?_) (fun hg=>?_)<;>try exact svx)|refine svh (fun hb=>?_) (fun hb=>?_)|refine svb (fun b=>?_)|fail))
    refine S.call ?_; refine (th _).mono ?_; rintro r h' ⟨rfl, hh⟩; subst hh
    (repeat' (first|refine svz ⟨fun b hq=>?_⟩|refine svA ⟨?_⟩|refine svu ⟨fun u=>?_⟩|(refine svG (fun hg=>?_) (fun hg=>?_)<;>try exact svx)|refine svh (fun hb=>?_) (fun hb=>?_)|refine svb (fun b=>?_)|fail))
    exact fin_r (h' := _) ⟨rfl, rfl⟩
set_option maxRecDepth 100000 in
theorem new_c (h : Heap) : ACalls Tryz.prog 24 [] h (fun r h' => r = encT [] [] ∧ h' = h) := by
  refine ACalls.wk (Q := fun v h' => v = .agg [.val (.map none), .val (.map none)] ∧ h' = h) ?_ ?_
  · refine ACalls.intro Tryz.func24 rfl Tryz.ntmps24 Tryz.results24 (Nat.le_of_ble_eq_true rfl) ?_
    (repeat' (first|refine svz ⟨fun b hq=>?_⟩|refine svA ⟨?_⟩|refine svu ⟨fun u=>?_⟩|(refine svG (fun hg=>?_) (fun hg=>?_)<;>try exact svx)|refine svh (fun hb=>?_) (fun hb=>?_)|refine svb (fun b=>?_)|fail))
    exact fin_r (h' := h) ⟨rfl, rfl⟩
  · rintro v h' ⟨rfl, rfl⟩
    exact ⟨_, (by (repeat (first | exact Wk.refl _ | exact Wk.nilr _ | exact Wk.nilm | apply Wk.aggc | apply Wk.tupc | exact Wk.aggn | exact Wk.tupn)); first | done | fail), rfl, rfl⟩
set_option maxRecDepth 100000 in
theorem cpy_c (bm : Nat) (s : UP) (h : Heap) (hn : (s.map (·.1)).Nodup) : ACalls Tryz.prog 96 [.val (.map (some bm)), mapV .u32 (vI .u32) s] (mpV bm .u32 (vI .u32) ([] : UP) :: h) (fun r h' => r = .tup [] ∧ h' = mpV bm .u32 (vI .u32) s :: h) := by
  refine ACalls.intro Tryz.func96 rfl Tryz.ntmps96 Tryz.results96 (Nat.le_of_ble_eq_true rfl) ?_
  (repeat' (first|refine svz ⟨fun b hq=>?_⟩|refine svA ⟨?_⟩|refine svu ⟨fun u=>?_⟩|(refine svG (fun hg=>?_) (fun hg=>?_)<;>try exact svx)|refine svh (fun hb=>?_) (fun hb=>?_)|refine svb (fun b=>?_)|fail))
  revert b; intro b7
  refine W.loop (J := fun x : List Nat × Option Nat × UP => ⟨16, [(7, .val (.pointer (some ⟨b7, 0, none⟩))), (0, .val (.map (some bm)))], mitV b7 .u32 (vI .u32) s x.1 x.2.1 :: mpV bm .u32 (vI .u32) x.2.2 :: h⟩)
    (Φ := fun x => (x.2.2 ++ remL s x.1).Perm s) (μ := fun x => x.1.length) (List.range s.length, none, []) lee (rng_start s) ?_
  rintro ⟨left, last, done⟩ hp
  dsimp only at hp ⊢
  (repeat' (first|refine svz ⟨fun b hq=>?_⟩|refine svA ⟨?_⟩|refine svu ⟨fun u=>?_⟩|(refine svG (fun hg=>?_) (fun hg=>?_)<;>try exact svx)|refine svh (fun hb=>?_) (fun hb=>?_)|refine svb (fun b=>?_)|fail))
  refine S.next (fun hl => ?_) (fun i p hi hpi => ?_)
  · have hd := rng_end hp hl
    (repeat' (first|refine svz ⟨fun b hq=>?_⟩|refine svA ⟨?_⟩|refine svu ⟨fun u=>?_⟩|(refine svG (fun hg=>?_) (fun hg=>?_)<;>try exact svx)|refine svh (fun hb=>?_) (fun hb=>?_)|refine svb (fun b=>?_)|fail))
    exact fin_n (h' := mpV bm .u32 (vI .u32) s :: h) ⟨rfl, rfl⟩ (h2 := .skip (leh_mp hd (.refl _)))
  · have hst := rng_step hp hi hpi
    have hnd := (hst.map (·.1)).nodup_iff.2 hn
    rw [List.map_append, List.map_append, List.append_assoc, List.nodup_append] at hnd
    have hnew : p.1 ∉ done.map (·.1) := fun hm => hnd.2.2 p.1 hm p.1 (by simp) rfl
    (repeat' (first|refine svz ⟨fun b hq=>?_⟩|refine svA ⟨?_⟩|refine svu ⟨fun u=>?_⟩|(refine svG (fun hg=>?_) (fun hg=>?_)<;>try exact svx)|refine svh (fun hb=>?_) (fun hb=>?_)|refine svb (fun b=>?_)|fail))
    rw [putF_new p.2 hnew]
    exact ⟨(left.erase i, some i, done ++ [p]), hst, lee, rng_less hi⟩
end Go.Proofs.YtfbegifmhgkpjaaGreat
