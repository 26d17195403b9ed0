/- slices.IndexFunc, DeleteFunc at ids; trees: take. No condition. -/
import Derived.Test.YtfbegifmhgkpjaaGreatQ8
namespace Go.VM
open Go
theorem ACalls.ikeep1 {P : Program} {g : Nat} {vs : List AV} {h : Heap} {v : AV} {x : OE} (k : ACalls P g vs h (fun r h' => r = v ∧ h' = h)) : ACalls P g vs (x :: h) (fun r h' => r = v ∧ h' = x :: h) :=
  (k.beside [x]).mono fun r h' ⟨h1, ⟨e1, e2⟩, e3⟩ => ⟨e1, by rw [e3, e2]; rfl⟩
end Go.VM
namespace Go.Proofs.YtfbegifmhgkpjaaGreat
open Go Go.VM
attribute [local irreducible] PurV Pur Step RL W D ACalls Then InBlock Fini
set_option linter.unusedVariables false
set_option linter.unusedSimpArgs false
set_option maxHeartbeats 20000000
def idxFI (p : Int → Bool) (l : List Int) : Int := match l.findIdx? p with
  | some i => (i : Int)
  | none => -1
theorem idxF_someI {p : Int → Bool} {l : List Int} {k : Nat} {r : Int} (h1 : ∀ x ∈ l.take k, p x = false) (hx : l[k]? = some r) (hr : p r = true) : idxFI p l = (k : Int) := by
  unfold idxFI
  have : l.findIdx? p = some k := by
    rw [List.findIdx?_eq_some_iff_getElem]
    obtain ⟨hk, e⟩ := List.getElem?_eq_some_iff.1 hx
    refine ⟨hk, by rw [e]; exact hr, fun j hj => ?_⟩
    have := h1 l[j] (List.mem_take_iff_getElem.2 ⟨j, by omega, rfl⟩)
    simp [this]
  rw [this]
theorem idxF_noneI {p : Int → Bool} {l : List Int} (h1 : ∀ x ∈ l, p x = false) : idxFI p l = -1 := by
  unfold idxFI
  have : l.findIdx? p = none := List.findIdx?_eq_none_iff.2 h1
  rw [this]
set_option maxRecDepth 100000 in
theorem indexfunc_cI (p : Int → Bool) (l : List Int) (v : Value) (e : Nat) {fv : AV} {f : Nat} {caps : List AV} [TFun Tryz.prog f] (hF : Fv fv f caps) (h : Heap) (hl : l.length ≤ 1000000)
    (hp : ∀ r ∈ l, ACalls Tryz.prog f (.val (.int .u32 r) :: caps) h (fun z h' => z = .val (.bool (p r)) ∧ h' = h)) :
    ACalls Tryz.prog 124 [.val v, fv] (.own v 1 (ints .u32 l) e :: h) (fun r h' => r = .val (.int .i64 (idxFI p l)) ∧ h' = .own v 1 (ints .u32 l) e :: h) := by
  refine ACalls.intro Tryz.func124 rfl Tryz.ntmps124 Tryz.results124 (Nat.le_of_ble_eq_true rfl) ?_
  (repeat' (first|refine svz ⟨fun b hq=>?_⟩|refine svA ⟨?_⟩|refine svu ⟨fun u=>?_⟩|(refine svG (fun hg=>?_) (fun hg=>?_)<;>try exact svx)|refine svh (fun hb=>?_) (fun hb=>?_)|refine svb (fun b=>?_)|fail))
  refine W.loop (J := fun k : Nat => ⟨19, [(8, .val (.int .i64 (k : Int))), (7, .val (.int .i64 (l.length : Int))), (6, .val v), (0, .val v), (1, fv)], .own v 1 (ints .u32 l) e :: h⟩)
    (Φ := fun k => k ≤ l.length ∧ ∀ x ∈ l.take k, p x = false) (μ := fun k => l.length - k) 0 lee ⟨Nat.zero_le _, by simp⟩ ?_
  rintro k ⟨hk, hn⟩
  rcases Nat.lt_or_ge k l.length with hlt | hge
  · obtain ⟨r, hx⟩ : ∃ r, l[k]? = some r := ⟨_, List.getElem?_eq_getElem hlt⟩
    have hr : r ∈ l := List.mem_of_getElem? hx
    (repeat' (first|refine svz ⟨fun b hq=>?_⟩|refine svA ⟨?_⟩|refine svu ⟨fun u=>?_⟩|(refine svG (fun hg=>?_) (fun hg=>?_)<;>try exact svx)|refine svh (fun hb=>?_) (fun hb=>?_)|refine svb (fun b=>?_)|fail))
    refine S.callv hF ?_
    refine (hp r hr).ikeep1.mono ?_
    rintro z h' ⟨rfl, hh⟩; subst hh
    cases hpr : p r with
    | true =>
      rw [idxF_someI hn hx hpr]
      (repeat' (first|refine svz ⟨fun b hq=>?_⟩|refine svA ⟨?_⟩|refine svu ⟨fun u=>?_⟩|(refine svG (fun hg=>?_) (fun hg=>?_)<;>try exact svx)|refine svh (fun hb=>?_) (fun hb=>?_)|refine svb (fun b=>?_)|fail))
      exact fin_r (h' := _) ⟨rfl, rfl⟩
    | false =>
      (repeat' (first|refine svz ⟨fun b hq=>?_⟩|refine svA ⟨?_⟩|refine svu ⟨fun u=>?_⟩|(refine svG (fun hg=>?_) (fun hg=>?_)<;>try exact svx)|refine svh (fun hb=>?_) (fun hb=>?_)|refine svb (fun b=>?_)|fail))
      refine ⟨k + 1, ⟨hlt, fun y hy => ?_⟩, lee, by omega⟩
      rw [List.take_add_one, hx] at hy
      rcases List.mem_append.1 hy with hy | hy
      · exact hn y hy
      · simp at hy; rw [hy]; exact hpr
  · rw [List.take_of_length_le hge] at hn
    rw [idxF_noneI hn]
    (repeat' (first|refine svz ⟨fun b hq=>?_⟩|refine svA ⟨?_⟩|refine svu ⟨fun u=>?_⟩|(refine svG (fun hg=>?_) (fun hg=>?_)<;>try exact svx)|refine svh (fun hb=>?_) (fun hb=>?_)|refine svb (fun b=>?_)|fail))
    exact fin_r (h' := _) ⟨rfl, rfl⟩
theorem take_splice0I {l ys : List AV} {k : Nat} (h : k ≤ l.length) : (splice l k ys).take k = l.take k := by
  unfold splice
  rw [List.append_assoc, List.take_append_of_le_length (by rw [List.length_take]; omega), List.take_take, Nat.min_self]
theorem findIdx_prefixI {p : Int → Bool} {l : List Int} {i : Nat} (h : l.findIdx? p = some i) : ∃ r, l[i]? = some r ∧ p r = true ∧ ∀ x ∈ l.take i, p x = false := by
  obtain ⟨hi, h1, h2⟩ := List.findIdx?_eq_some_iff_getElem.1 h
  refine ⟨l[i], List.getElem?_eq_getElem hi, h1, fun x hx => ?_⟩
  obtain ⟨j, hj, rfl⟩ := List.mem_take_iff_getElem.1 hx
  have := h2 j (by omega)
  simpa using this
theorem filter_take_succI {p : Int → Bool} {l : List Int} {j : Nat} {r : Int} (hx : l[j]? = some r) : (l.take (j + 1)).filter p = (l.take j).filter p ++ (if p r then [r] else []) := by
  rw [List.take_add_one, hx, List.filter_append]
  cases h : p r <;> simp [h]
set_option maxRecDepth 100000 in
theorem deletefunc_cI (p : Int → Bool) (l : List Int) (v : Value) {fv : AV} {f : Nat} {caps : List AV} [TFun Tryz.prog f] (hF : Fv fv f caps) (h : Heap) (hl : l.length ≤ 1000000)
    (hp : ∀ r ∈ l, ACalls Tryz.prog f (.val (.int .u32 r) :: caps) h (fun z h' => z = .val (.bool (p r)) ∧ h' = h)) :
    ACalls Tryz.prog 97 [.val v, fv] (.own v 1 (ints .u32 l) 57 :: h) (fun r h' => ∃ w, r = .val w ∧ h' = .own w 1 (ints .u32 (l.filter fun x => !p x)) 57 :: h) := by
  refine ACalls.intro Tryz.func97 rfl Tryz.ntmps97 Tryz.results97 (Nat.le_of_ble_eq_true rfl) ?_
  (repeat' (first|refine svz ⟨fun b hq=>?_⟩|refine svA ⟨?_⟩|refine svu ⟨fun u=>?_⟩|(refine svG (fun hg=>?_) (fun hg=>?_)<;>try exact svx)|refine svh (fun hb=>?_) (fun hb=>?_)|refine svb (fun b=>?_)|fail))
  refine S.call ?_; refine (indexfunc_cI p l v _ hF h hl hp).mono ?_; rintro r h' ⟨rfl, hh⟩; subst hh
  unfold idxFI
  cases hi : l.findIdx? p with
  | none =>
    have e : (l.filter fun x => !p x) = l := List.filter_eq_self.2 fun x hx => by rw [List.findIdx?_eq_none_iff.1 hi x hx]; rfl
    rw [e]
    dsimp only
    (repeat' (first|refine svz ⟨fun b hq=>?_⟩|refine svA ⟨?_⟩|refine svu ⟨fun u=>?_⟩|(refine svG (fun hg=>?_) (fun hg=>?_)<;>try exact svx)|refine svh (fun hb=>?_) (fun hb=>?_)|refine svb (fun b=>?_)|fail))
    exact fin_r (h' := _) ⟨v, rfl, rfl⟩
  | some i =>
    obtain ⟨r0, hr0, hpr0, hpre⟩ := findIdx_prefixI hi
    have hil : i < l.length := (List.getElem?_eq_some_iff.1 hr0).1
    have e0 : (l.take i).filter (fun x => !p x) = l.take i := List.filter_eq_self.2 fun x hx => by rw [hpre x hx]; rfl
    have e1 : (l.take (i + 1)).filter (fun x => !p x) = l.take i := by rw [filter_take_succI hr0, e0, hpr0]; simp
    dsimp only
    (repeat' (first|refine svz ⟨fun b hq=>?_⟩|refine svA ⟨?_⟩|refine svu ⟨fun u=>?_⟩|(refine svG (fun hg=>?_) (fun hg=>?_)<;>try exact svx)|refine svh (fun hb=>?_) (fun hb=>?_)|refine svb (fun b=>?_)|fail))
    refine W.loop (J := fun x : Nat × Nat × List Int => ⟨42, [(6, .val (.int .i64 (x.1 : Int))), (5, .val (.int .i64 (x.2.1 : Int))), (0, .val v), (1, fv)], .own v 1 (ints .u32 x.2.2) 57 :: h⟩)
      (Φ := fun x => x.1 ≤ l.length ∧ x.2.1 < x.1 ∧ x.2.2.length = l.length ∧ x.2.2.drop x.1 = l.drop x.1 ∧ x.2.2.take x.2.1 = (l.take x.1).filter fun y => !p y) (μ := fun x => l.length - x.1) (i + 1, i, l) lee ⟨hil, by dsimp only; omega, rfl, rfl, by dsimp only; rw [e1]⟩ ?_
    rintro ⟨j, k, m⟩ ⟨hj, hkj, hm, hd, ht⟩
    dsimp only at hj hkj hm hd ht ⊢
    rcases Nat.lt_or_ge j l.length with hlt | hge
    · obtain ⟨r, hx⟩ : ∃ r, l[j]? = some r := ⟨_, List.getElem?_eq_getElem hlt⟩
      have hr : r ∈ l := List.mem_of_getElem? hx
      have hxm : m[j]? = some r := by
        have := congrArg (·[0]?) hd
        simp only [List.getElem?_drop, Nat.add_zero] at this
        rw [this]; exact hx
      (repeat' (first|refine svz ⟨fun b hq=>?_⟩|refine svA ⟨?_⟩|refine svu ⟨fun u=>?_⟩|(refine svG (fun hg=>?_) (fun hg=>?_)<;>try exact svx)|refine svh (fun hb=>?_) (fun hb=>?_)|refine svb (fun b=>?_)|fail))
      refine S.callv hF ?_
      refine (hp r hr).ikeep1.mono ?_
      rintro z h' ⟨rfl, hh⟩; subst hh
      have hs := filter_take_succI (p := fun y => !p y) hx
      cases hpr : p r with
      | true =>
        rw [hpr] at hs
        (repeat' (first|refine svz ⟨fun b hq=>?_⟩|refine svA ⟨?_⟩|refine svu ⟨fun u=>?_⟩|(refine svG (fun hg=>?_) (fun hg=>?_)<;>try exact svx)|refine svh (fun hb=>?_) (fun hb=>?_)|refine svb (fun b=>?_)|fail))
        refine ⟨(j + 1, k, m), ⟨hlt, by dsimp only; omega, hm, ?_, ?_⟩, lee, by dsimp only; omega⟩
        · dsimp only; rw [← List.drop_drop, ← List.drop_drop, hd]
        · dsimp only; rw [ht, hs]; simp
      | false =>
        rw [hpr] at hs
        (repeat' (first|refine svz ⟨fun b hq=>?_⟩|refine svA ⟨?_⟩|refine svu ⟨fun u=>?_⟩|(refine svG (fun hg=>?_) (fun hg=>?_)<;>try exact svx)|refine svh (fun hb=>?_) (fun hb=>?_)|refine svb (fun b=>?_)|fail))
        refine ⟨(j + 1, k + 1, m.set k r), ⟨hlt, by dsimp only; omega, by simpa using hm, ?_, ?_⟩, by dsimp only; rw [← ints_set]; exact lee, by dsimp only; omega⟩
        · dsimp only
          rw [List.drop_set_of_lt (by omega), ← List.drop_drop, ← List.drop_drop, hd]
        · dsimp only
          rw [hs, List.take_set, List.take_add_one, List.getElem?_eq_getElem (by omega), ht]
          have hlen : k = ((l.take j).filter fun y => !p y).length := by rw [← ht, List.length_take]; omega
          simp only [Option.toList_some]
          rw [List.set_append_right _ _ (by omega)]
          simp [← hlen]
    · have hjl : j = l.length := by omega
      subst hjl
      rw [List.take_length] at ht
      (repeat' (first|refine svz ⟨fun b hq=>?_⟩|refine svA ⟨?_⟩|refine svu ⟨fun u=>?_⟩|(refine svG (fun hg=>?_) (fun hg=>?_)<;>try exact svx)|refine svh (fun hb=>?_) (fun hb=>?_)|refine svb (fun b=>?_)|fail))
      refine S.clear ?_
      (repeat' ((fail_if_success (refine iS ?_; refine iSl ?_)); (first|refine svz ⟨fun b hq=>?_⟩|refine svA ⟨?_⟩|refine svu ⟨fun u=>?_⟩|(refine svG (fun hg=>?_) (fun hg=>?_)<;>try exact svx)|refine svh (fun hb=>?_) (fun hb=>?_)|refine svb (fun b=>?_)|fail)))
      refine S.trunc (hi := k) (fun w => ?_)
      (repeat' (first|refine svz ⟨fun b hq=>?_⟩|refine svA ⟨?_⟩|refine svu ⟨fun u=>?_⟩|(refine svG (fun hg=>?_) (fun hg=>?_)<;>try exact svx)|refine svh (fun hb=>?_) (fun hb=>?_)|refine svb (fun b=>?_)|fail))
      have e2 : ∀ ys, (splice (ints .u32 m) k ys).take k = ints .u32 (l.filter fun x => !p x) := fun ys => by rw [take_splice0I (by rw [len_ints]; omega), ← ht]; simp [ints]
      refine fin_r (h' := .own w 1 (ints .u32 (l.filter fun x => !p x)) 57 :: h) ⟨w, rfl, rfl⟩ (h2 := ?_)
      dsimp only
      rw [e2]
      exact (by repeat (first | exact LeH.refl _ | exact LeH.nil _ | refine LeH.cons (by (fail_if_success (apply tkG)); (repeat (first | exact Tk.here | apply Tk.there)); first | done | fail) ?_ | refine LeH.boxw (by (fail_if_success (apply tkG)); (repeat (first | exact Tk.here | apply Tk.there)); first | done | fail) (by (repeat (first | exact Wk.refl _ | exact Wk.nilr _ | exact Wk.nilm | apply Wk.aggc | apply Wk.tupc | exact Wk.aggn | exact Wk.tupn)); first | done | fail) ?_ | refine LeH.skip ?_))
set_option maxRecDepth 100000 in
theorem take1_c (b3 : Nat) (id x : Int) (h : Heap) (m3 : OE.box b3 [.val (.int .u32 (id))] 57 ∈ h) : ACalls Tryz.prog 98 [.val (.int .u32 (x)), .val (.pointer (some ⟨b3, 0, none⟩))] h (fun r h' => r = .val (.bool (decide (x = id))) ∧ h' = h) := by
  refine ACalls.intro Tryz.func98 rfl Tryz.ntmps98 Tryz.results98 (Nat.le_of_ble_eq_true rfl) ?_
  (repeat' (first|refine svz ⟨fun b hq=>?_⟩|refine svA ⟨?_⟩|refine svu ⟨fun u=>?_⟩|(refine svG (fun hg=>?_) (fun hg=>?_)<;>try exact svx)|refine svh (fun hb=>?_) (fun hb=>?_)|refine svb (fun b=>?_)|fail))
  exact fin_r (h' := h) ⟨rfl, rfl⟩
def delL (id : Int) (L : List Int) : List Int := L.filter fun x => !decide (x = id)
set_option maxRecDepth 100000 in
theorem take_c (M : List (Int × AV)) (up : UP) (id p : Int) (bk bu : Nat) (v : Value) (L : List Int) (h : Heap) (hM : lkF M p = some (.val v)) (hup : lkF up id = some p) (hl : L.length ≤ 1000000) :
    ACalls Tryz.prog 48 [.agg [.val (.map (some bk)), .val (.map (some bu))], .val (.int .u32 (id))] (.own v 1 (ints .u32 L) 57 :: mpV bk .u32 idA M :: mpV bu .u32 (vI .u32) up :: h)
      (fun r h' => ∃ w, r = .tup [] ∧ h' = .own w 1 (ints .u32 (delL id L)) 57 :: mpV bk .u32 idA (putF M p (.val w)) :: mpV bu .u32 (vI .u32) up :: h) := by
  refine ACalls.intro Tryz.func48 rfl Tryz.ntmps48 Tryz.results48 (Nat.le_of_ble_eq_true rfl) ?_
  (repeat' ((fail_if_success (refine drg ?_)); (first|refine svz ⟨fun b hq=>?_⟩|refine svA ⟨?_⟩|refine svu ⟨fun u=>?_⟩|(refine svG (fun hg=>?_) (fun hg=>?_)<;>try exact svx)|refine svh (fun hb=>?_) (fun hb=>?_)|refine svb (fun b=>?_)|fail)))
  rw [hup]
  dsimp only [Option.getD_some]
  rename_i b2
  revert b; intro b3
  have dc := fun h m3 => deletefunc_cI (fun x => decide (x = id)) L v (.clo 98 [.val (.pointer (some ⟨b3, 0, none⟩))]) h hl (fun r _ => take1_c b3 id r h m3)
  refine W.dr (.rw (.ro (.rw (.ro (.done _))))) ?_
  (repeat' (first | refine svz ⟨fun b hq=>?_⟩|refine svT ⟨?_⟩|refine svu ⟨fun u=>?_⟩|(refine svG (fun hg=>?_) (fun hg=>?_)<;>try exact svx)|refine svh (fun hb=>?_) (fun hb=>?_)|refine svb (fun b=>?_) | refine sva ?_ | refine sv3 ?_ | fail))
  refine R2.F (v := .val v) (step_pur (pur_look_own (f := idA) rfl (by (fail_if_success (apply memG)); repeat (first | exact List.Mem.head _ | assumption | refine List.Mem.tail _ ?_)) rfl (by rw [hM]; exact Wk.refl _)) rfl (kf (LeH.refl _))) ?_
  (repeat' (first | refine svz ⟨fun b hq=>?_⟩|refine svT ⟨?_⟩|refine svu ⟨fun u=>?_⟩|(refine svG (fun hg=>?_) (fun hg=>?_)<;>try exact svx)|refine svh (fun hb=>?_) (fun hb=>?_)|refine svb (fun b=>?_) | refine sva ?_ | refine sv3 ?_ | fail))
  refine R2.B ?_
  refine Step.le (s' := ⟨18, [(16, .clo (.func 98) [.val (.pointer (some ⟨b3, 0, none⟩))]), (15, .val v)], .own v 1 (ints .u32 L) 57 :: .box b3 [.val (.int .u32 (id))] 57 :: mpV bu .u32 (vI .u32) up :: h⟩) lee ?_
  refine S.call ?_
  refine (dc _ (by (fail_if_success (apply memG)); repeat (first | exact List.Mem.head _ | assumption | refine List.Mem.tail _ ?_))).mono ?_
  rintro r h' ⟨w, rfl, hh⟩
  subst hh
  refine kd ?_
  refine R2.melt ?_
  refine R2.Bs ?_
  refine S.mapU (f := idA) (m := M) (a := .val w) ?_
  (repeat' (first|refine svz ⟨fun b hq=>?_⟩|refine svA ⟨?_⟩|refine svu ⟨fun u=>?_⟩|(refine svG (fun hg=>?_) (fun hg=>?_)<;>try exact svx)|refine svh (fun hb=>?_) (fun hb=>?_)|refine svb (fun b=>?_)|fail))
  exact fin_n (h' := .own w 1 (ints .u32 (delL id L)) 57 :: mpV bk .u32 idA (putF M p (.val w)) :: mpV bu .u32 (vI .u32) up :: h) ⟨w, rfl, rfl⟩
end Go.Proofs.YtfbegifmhgkpjaaGreat
