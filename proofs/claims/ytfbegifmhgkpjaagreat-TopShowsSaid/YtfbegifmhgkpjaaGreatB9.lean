import Derived.Test.YtfbegifmhgkpjaaGreatS9
import Derived.Test.YtfbegifmhgkpjaaGreatU3
import Derived.Test.YtfbegifmhgkpjaaGreatS1
import Derived.Test.YtfbegifmhgkpjaaGreatU4
/- What a sorted list is; a number put into one. No condition. -/
namespace Go.Proofs.YtfbegifmhgkpjaaGreat
open Go Go.VM
set_option linter.unusedVariables false
set_option linter.unusedSimpArgs false
theorem sorted_perm_eq : ∀ {a b : List Int}, a.Perm b → a.Pairwise (· ≤ ·) → b.Pairwise (· ≤ ·) → a = b
  | [], b, h, _, _ => by rw [List.nil_perm.1 h]
  | x :: a, [], h, _, _ => by simpa using h.length_eq
  | x :: a, y :: b, h, h1, h2 => by
    rw [List.pairwise_cons] at h1 h2
    have hxy : x = y := by
      have q1 : x ∈ y :: b := h.mem_iff.1 (.head _)
      have q2 : y ∈ x :: a := h.mem_iff.2 (.head _)
      rcases List.mem_cons.1 q1 with e | e
      · exact e
      · rcases List.mem_cons.1 q2 with e2 | e2
        · exact e2.symm
        · have := h1.1 y e2; have := h2.1 x e; omega
    subst hxy
    rw [sorted_perm_eq (List.Perm.cons_inv h) h1.2 h2.2]
theorem srt_perm (l : List Int) : (srt l).Perm l := List.mergeSort_perm _ _
theorem srt_sorted (l : List Int) : (srt l).Pairwise (· ≤ ·) := by
  have := List.pairwise_mergeSort (le := fun x y : Int => decide (x ≤ y)) (fun a b c h1 h2 => by simp at *; omega) (fun a b => by simp; omega) l
  exact this.imp (fun h => by simpa using h)
theorem srt_eq {l l' : List Int} (h : l'.Perm l) (hs : l'.Pairwise (· ≤ ·)) : l' = srt l :=
  sorted_perm_eq (h.trans (srt_perm l).symm) hs (srt_sorted l)
theorem srt_congr {l l' : List Int} (h : l.Perm l') : srt l = srt l' := srt_eq ((srt_perm l).trans h) (srt_sorted l)
theorem fz {P : Program} {f : Nat} {args : List AV} {h : Heap} {k e : Nat} {l : List AV} {g g' : AV → AV} (hg : ∀ v, Frz v k l (g (.val v)) (g' (.ro k l))) (hc : ACalls P f args h (fun r h' => ∃ v, r = g (.val v) ∧ h' = .own v k l e :: h)) :
    ACalls P f args h (fun r h' => r = g' (.ro k l) ∧ h' = h) := by
  refine hc.frz ?_
  rintro r h' ⟨v, rfl, rfl⟩
  exact ⟨v, k, l, e, _, h, .here, hg v, rfl, rfl⟩
theorem putF_new {α : Type} {t : List (Int × α)} {i : Int} (a : α) (h : i ∉ t.map (·.1)) : putF t i a = t ++ [(i, a)] := by
  unfold putF
  have : lkF t i = none := lkF_none.2 fun p hp e => h (e ▸ List.mem_map_of_mem hp)
  rw [this]; rfl
theorem leh_mp {α : Type} {b : Nat} {kd : IntKind} {f : α → AV} {t t' : List (Int × α)} {h h' : Heap} (hp : t.Perm t') (k : LeH h h') : LeH (mpV b kd f t :: h) (mpV b kd f t' :: h') := by
  have := LeH.mapp (b := b) (x := t.map fun p => (Value.int kd p.1, f p.2)) (y := t'.map fun p => (Value.int kd p.1, f p.2)) (h := mpV b kd f t :: h) (r := h) (h' := h') (by simp only [List.map_map]; exact .here) (hp.map _) k
  simp only [List.map_map] at this
  exact this
end Go.Proofs.YtfbegifmhgkpjaaGreat

/- A number put into a list that rises. No condition. -/
namespace Go.Proofs.YtfbegifmhgkpjaaGreat
open Go Go.VM
attribute [local irreducible] PurV Pur Step RL W D ACalls Then InBlock Fini
set_option linter.unusedVariables false
set_option linter.unusedSimpArgs false
set_option maxHeartbeats 20000000
abbrev Up_ (l : List Int) : Prop := l.Pairwise (· < ·)
end Go.Proofs.YtfbegifmhgkpjaaGreat

/- The reference's Edges. No condition. -/
namespace Go.Proofs.YtfbegifmhgkpjaaGreat
open Go Go.VM
attribute [local irreducible] PurV Pur Step RL W D ACalls Then InBlock Fini
set_option linter.unusedVariables false
set_option linter.unusedSimpArgs false
set_option maxHeartbeats 20000000
end Go.Proofs.YtfbegifmhgkpjaaGreat

/- Whether rows have the same spans. No condition. -/
namespace Go.Proofs.YtfbegifmhgkpjaaGreat
open Go Go.VM
attribute [local irreducible] PurV Pur Step RL W D ACalls Then InBlock Fini
set_option linter.unusedVariables false
set_option linter.unusedSimpArgs false
set_option maxHeartbeats 20000000
end Go.Proofs.YtfbegifmhgkpjaaGreat

/- The closures of band.Of: by which the rectangles are sorted, thrown out, compared. No condition. -/
namespace Go.Proofs.YtfbegifmhgkpjaaGreat
open Go Go.VM
attribute [local irreducible] PurV Pur Step RL W D ACalls Then InBlock Fini
set_option linter.unusedVariables false
set_option linter.unusedSimpArgs false
set_option maxHeartbeats 20000000
def cmpI (a b : Int) : Int := if a < b then -1 else if b < a then 1 else 0
set_option maxRecDepth 100000 in
theorem isnan_c (a : Int) (h : Heap) : ACalls Tryz.prog 110 [.val (.int .i64 a)] h (fun r h' => r = .val (.bool false) ∧ h' = h) := by
  refine ACalls.intro Tryz.func110 rfl Tryz.ntmps110 Tryz.results110 (Nat.le_of_ble_eq_true rfl) ?_
  (repeat' (first|refine svz ⟨fun b hq=>?_⟩|refine svA ⟨?_⟩|refine svu ⟨fun u=>?_⟩|(refine svG (fun hc=>?_) (fun hc=>?_)<;>try exact svx)|refine svh (fun hb=>?_) (fun hb=>?_)|refine svb (fun b=>?_)|fail))
  refine fin_r (h' := _) ⟨?_, rfl⟩
  simp [tupA]
set_option maxRecDepth 100000 in
theorem compare_c (a b : Int) (h : Heap) : ACalls Tryz.prog 72 [.val (.int .i64 a), .val (.int .i64 b)] h (fun r h' => r = .val (.int .i64 (cmpI a b)) ∧ h' = h) := by
  refine ACalls.intro Tryz.func72 rfl Tryz.ntmps72 Tryz.results72 (Nat.le_of_ble_eq_true rfl) ?_
  (repeat' (first|refine svz ⟨fun b hq=>?_⟩|refine svA ⟨?_⟩|refine svu ⟨fun u=>?_⟩|(refine svG (fun hc=>?_) (fun hc=>?_)<;>try exact svx)|refine svh (fun hb=>?_) (fun hb=>?_)|refine svb (fun b=>?_)|fail))
  refine S.call ?_; refine (isnan_c a _).mono ?_; rintro r h' ⟨rfl, hh⟩; subst hh
  (repeat' (first|refine svz ⟨fun b hq=>?_⟩|refine svA ⟨?_⟩|refine svu ⟨fun u=>?_⟩|(refine svG (fun hc=>?_) (fun hc=>?_)<;>try exact svx)|refine svh (fun hb=>?_) (fun hb=>?_)|refine svb (fun b=>?_)|fail))
  refine S.call ?_; refine (isnan_c b _).mono ?_; rintro r h' ⟨rfl, hh⟩; subst hh
  unfold cmpI
  by_cases h1 : a < b
  · rw [if_pos h1]
    (repeat' (first|refine svz ⟨fun b hq=>?_⟩|refine svA ⟨?_⟩|refine svu ⟨fun u=>?_⟩|(refine svG (fun hc=>?_) (fun hc=>?_)<;>try exact svx)|refine svh (fun hb=>?_) (fun hb=>?_)|refine svb (fun b=>?_)|fail))
    exact fin_r (h' := _) ⟨rfl, rfl⟩
  · rw [if_neg h1]
    by_cases h2 : b < a
    · rw [if_pos h2]
      (repeat' (first|refine svz ⟨fun b hq=>?_⟩|refine svA ⟨?_⟩|refine svu ⟨fun u=>?_⟩|(refine svG (fun hc=>?_) (fun hc=>?_)<;>try exact svx)|refine svh (fun hb=>?_) (fun hb=>?_)|refine svb (fun b=>?_)|fail))
      exact fin_r (h' := _) ⟨rfl, rfl⟩
    · rw [if_neg h2]
      (repeat' (first|refine svz ⟨fun b hq=>?_⟩|refine svA ⟨?_⟩|refine svu ⟨fun u=>?_⟩|(refine svG (fun hc=>?_) (fun hc=>?_)<;>try exact svx)|refine svh (fun hb=>?_) (fun hb=>?_)|refine svb (fun b=>?_)|fail))
      exact fin_r (h' := _) ⟨rfl, rfl⟩
def orI (a b : Int) : Int := if a ≠ 0 then a else b
set_option maxRecDepth 100000 in
theorem or_c (a b : Int) (h : Heap) : ACalls Tryz.prog 71 [.ro 1 [.val (.int .i64 a), .val (.int .i64 b)]] h (fun r h' => r = .val (.int .i64 (orI a b)) ∧ h' = h) := by
  refine ACalls.intro Tryz.func71 rfl Tryz.ntmps71 Tryz.results71 (Nat.le_of_ble_eq_true rfl) ?_
  (repeat' (first|refine svz ⟨fun b hq=>?_⟩|refine svA ⟨?_⟩|refine svu ⟨fun u=>?_⟩|(refine svG (fun hc=>?_) (fun hc=>?_)<;>try exact svx)|refine svh (fun hb=>?_) (fun hb=>?_)|refine svb (fun b=>?_)|fail))
  refine W.loop (J := fun k : Nat => ⟨18, [(8, .val (.int .i64 (k : Int))), (7, .val (.int .i64 2)), (6, .ro 1 [.val (.int .i64 a), .val (.int .i64 b)]), (3, .val (.int .i64 0))], h⟩)
    (Φ := fun k => k ≤ 2 ∧ (0 < k → a = 0) ∧ (1 < k → b = 0)) (μ := fun k => 2 - k) 0 lee ⟨by omega, by omega, by omega⟩ ?_
  rintro k ⟨hk, h1, h2⟩
  unfold orI
  obtain rfl | rfl | rfl : k = 0 ∨ k = 1 ∨ k = 2 := by omega
  · by_cases ha : a = 0
    · (repeat' (first|refine svz ⟨fun b hq=>?_⟩|refine svA ⟨?_⟩|refine svu ⟨fun u=>?_⟩|(refine svG (fun hc=>?_) (fun hc=>?_)<;>try exact svx)|refine svh (fun hb=>?_) (fun hb=>?_)|refine svb (fun b=>?_)|fail))
      exact ⟨1, ⟨by omega, fun _ => ha, by omega⟩, lee, by omega⟩
    · rw [if_pos ha]
      (repeat' (first|refine svz ⟨fun b hq=>?_⟩|refine svA ⟨?_⟩|refine svu ⟨fun u=>?_⟩|(refine svG (fun hc=>?_) (fun hc=>?_)<;>try exact svx)|refine svh (fun hb=>?_) (fun hb=>?_)|refine svb (fun b=>?_)|fail))
      exact fin_r (h' := _) ⟨rfl, rfl⟩
  · rw [if_neg (by simpa using h1 (by omega))]
    by_cases hb : b = 0
    · (repeat' (first|refine svz ⟨fun b hq=>?_⟩|refine svA ⟨?_⟩|refine svu ⟨fun u=>?_⟩|(refine svG (fun hc=>?_) (fun hc=>?_)<;>try exact svx)|refine svh (fun hb=>?_) (fun hb=>?_)|refine svb (fun b=>?_)|fail))
      exact ⟨2, ⟨by omega, fun _ => h1 (by omega), fun _ => hb⟩, lee, by omega⟩
    · (repeat' (first|refine svz ⟨fun b hq=>?_⟩|refine svA ⟨?_⟩|refine svu ⟨fun u=>?_⟩|(refine svG (fun hc=>?_) (fun hc=>?_)<;>try exact svx)|refine svh (fun hb=>?_) (fun hb=>?_)|refine svb (fun b=>?_)|fail))
      exact fin_r (h' := _) ⟨rfl, rfl⟩
  · rw [if_neg (by simpa using h1 (by omega)), h2 (by omega)]
    (repeat' (first|refine svz ⟨fun b hq=>?_⟩|refine svA ⟨?_⟩|refine svu ⟨fun u=>?_⟩|(refine svG (fun hc=>?_) (fun hc=>?_)<;>try exact svx)|refine svh (fun hb=>?_) (fun hb=>?_)|refine svb (fun b=>?_)|fail))
    exact fin_r (h' := _) ⟨rfl, rfl⟩
def cmpYX (a b : RC) : Int := orI (cmpI a.y b.y) (cmpI a.x b.x)
set_option maxRecDepth 100000 in
theorem cmp1_c (p q : RC) (h : Heap) : ACalls Tryz.prog 70 [p.enc, q.enc] h (fun r h' => r = .val (.int .i64 (cmpYX p q)) ∧ h' = h) := by
  refine ACalls.intro Tryz.func70 rfl Tryz.ntmps70 Tryz.results70 (Nat.le_of_ble_eq_true rfl) ?_
  (repeat' (first|refine svz ⟨fun b hq=>?_⟩|refine svA ⟨?_⟩|refine svu ⟨fun u=>?_⟩|(refine svG (fun hc=>?_) (fun hc=>?_)<;>try exact svx)|refine svh (fun hb=>?_) (fun hb=>?_)|refine svb (fun b=>?_)|fail))
  refine R2.C (compare_c p.y q.y _) ?_
  (repeat' (first|refine svz ⟨fun b hq=>?_⟩|refine svA ⟨?_⟩|refine svu ⟨fun u=>?_⟩|(refine svG (fun hc=>?_) (fun hc=>?_)<;>try exact svx)|refine svh (fun hb=>?_) (fun hb=>?_)|refine svb (fun b=>?_)|fail))
  refine R2.C (compare_c p.x q.x _) ?_
  refine R2.two ?_
  refine R2.C (or_c _ _ _) ?_
  (repeat' (first|refine svz ⟨fun b hq=>?_⟩|refine svA ⟨?_⟩|refine svu ⟨fun u=>?_⟩|(refine svG (fun hc=>?_) (fun hc=>?_)<;>try exact svx)|refine svh (fun hb=>?_) (fun hb=>?_)|refine svb (fun b=>?_)|fail))
  exact fin_r (h' := _) ⟨rfl, rfl⟩
set_option maxRecDepth 100000 in
theorem cmp3_c (p q : RC) (h : Heap) : ACalls Tryz.prog 76 [p.enc, q.enc] h (fun r h' => r = .val (.int .i64 (cmpI p.x q.x)) ∧ h' = h) := by
  refine ACalls.intro Tryz.func76 rfl Tryz.ntmps76 Tryz.results76 (Nat.le_of_ble_eq_true rfl) ?_
  (repeat' (first|refine svz ⟨fun b hq=>?_⟩|refine svA ⟨?_⟩|refine svu ⟨fun u=>?_⟩|(refine svG (fun hc=>?_) (fun hc=>?_)<;>try exact svx)|refine svh (fun hb=>?_) (fun hb=>?_)|refine svb (fun b=>?_)|fail))
  refine S.call ?_; refine (compare_c p.x q.x _).mono ?_; rintro r h' ⟨rfl, hh⟩; subst hh
  (repeat' (first|refine svz ⟨fun b hq=>?_⟩|refine svA ⟨?_⟩|refine svu ⟨fun u=>?_⟩|(refine svG (fun hc=>?_) (fun hc=>?_)<;>try exact svx)|refine svh (fun hb=>?_) (fun hb=>?_)|refine svb (fun b=>?_)|fail))
  exact fin_r (h' := _) ⟨rfl, rfl⟩
set_option maxRecDepth 100000 in
theorem del_c (r : RC) (y : Int) (g : Nat) (h : Heap) (hc : r.cnt) : ACalls Tryz.prog 75 [r.enc, .val (.pointer (some ⟨g, 0, none⟩))] (.box g [.val (.int .i64 y)] 3 :: h) (fun v h' => v = .val (.bool (decide (r.y + r.h ≤ y))) ∧ h' = .box g [.val (.int .i64 y)] 3 :: h) := by
  refine ACalls.intro Tryz.func75 rfl Tryz.ntmps75 Tryz.results75 (Nat.le_of_ble_eq_true rfl) ?_
  obtain ⟨⟨a1, a2, a3⟩, ⟨a4, a5, a6⟩⟩ := hc
  (repeat' (first|refine svz ⟨fun b hq=>?_⟩|refine svA ⟨?_⟩|refine svu ⟨fun u=>?_⟩|(refine svG (fun hc=>?_) (fun hc=>?_)<;>try exact svx)|refine svh (fun hb=>?_) (fun hb=>?_)|refine svb (fun b=>?_)|fail))
  exact fin_r (h' := .box g [.val (.int .i64 y)] 3 :: h) ⟨rfl, rfl⟩
def goesOn (a b : RC) : Prop := a.x = b.x ∧ a.w = b.w ∧ a.y + a.h = b.y
instance (a b : RC) : Decidable (goesOn a b) := inferInstanceAs (Decidable (_ ∧ _ ∧ _))
set_option maxRecDepth 100000 in
theorem same1_c (p q : RC) (h : Heap) (hc : p.cnt) : ACalls Tryz.prog 116 [p.enc, q.enc] h (fun v h' => v = .val (.bool (decide (goesOn p q))) ∧ h' = h) := by
  refine ACalls.intro Tryz.func116 rfl Tryz.ntmps116 Tryz.results116 (Nat.le_of_ble_eq_true rfl) ?_
  obtain ⟨⟨a1, a2, a3⟩, ⟨a4, a5, a6⟩⟩ := hc
  by_cases h1 : p.x = q.x
  · by_cases h2 : p.w = q.w
    · (repeat' (first|refine svz ⟨fun b hq=>?_⟩|refine svA ⟨?_⟩|refine svu ⟨fun u=>?_⟩|(refine svG (fun hc=>?_) (fun hc=>?_)<;>try exact svx)|refine svh (fun hb=>?_) (fun hb=>?_)|refine svb (fun b=>?_)|fail))
      refine fin_r (h' := _) ⟨?_, rfl⟩
      refine congrArg (fun b => AV.val (.bool b)) (decide_eq_decide.2 ?_)
      unfold goesOn; simp [h1, h2]
    · (repeat' (first|refine svz ⟨fun b hq=>?_⟩|refine svA ⟨?_⟩|refine svu ⟨fun u=>?_⟩|(refine svG (fun hc=>?_) (fun hc=>?_)<;>try exact svx)|refine svh (fun hb=>?_) (fun hb=>?_)|refine svb (fun b=>?_)|fail))
      refine fin_r (h' := _) ⟨?_, rfl⟩
      rw [decide_eq_false (show ¬ goesOn p q from fun z => h2 z.2.1)]; rfl
  · (repeat' (first|refine svz ⟨fun b hq=>?_⟩|refine svA ⟨?_⟩|refine svu ⟨fun u=>?_⟩|(refine svG (fun hc=>?_) (fun hc=>?_)<;>try exact svx)|refine svh (fun hb=>?_) (fun hb=>?_)|refine svb (fun b=>?_)|fail))
    refine fin_r (h' := _) ⟨?_, rfl⟩
    rw [decide_eq_false (show ¬ goesOn p q from fun z => h1 z.1)]; rfl
end Go.Proofs.YtfbegifmhgkpjaaGreat

/- The library's functions on slices of rectangles. No condition. -/
namespace Go.VM
open Go
theorem ACalls.keep1 {P : Program} {g : Nat} {vs : List AV} {h : Heap} {v : AV} {x : OE} (k : ACalls P g vs h (fun r h' => r = v ∧ h' = h)) : ACalls P g vs (x :: h) (fun r h' => r = v ∧ h' = x :: h) :=
  (k.beside [x]).mono fun r h' ⟨h1, ⟨e1, e2⟩, e3⟩ => ⟨e1, by rw [e3, e2]; rfl⟩
theorem ACalls.keep2 {P : Program} {g : Nat} {vs : List AV} {h : Heap} {v : AV} {x y : OE} (k : ACalls P g vs h (fun r h' => r = v ∧ h' = h)) : ACalls P g vs (x :: y :: h) (fun r h' => r = v ∧ h' = x :: y :: h) := k.keep1.keep1
end Go.VM
namespace Go.Proofs.YtfbegifmhgkpjaaGreat
open Go Go.VM
attribute [local irreducible] PurV Pur Step RL W D ACalls Then InBlock Fini
set_option linter.unusedVariables false
set_option linter.unusedSimpArgs false
set_option maxHeartbeats 20000000
def idxF (p : RC → Bool) (l : List RC) : Int := match l.findIdx? p with
  | some i => (i : Int)
  | none => -1
theorem idxF_some {p : RC → Bool} {l : List RC} {k : Nat} {r : RC} (h1 : ∀ x ∈ l.take k, p x = false) (hx : l[k]? = some r) (hr : p r = true) : idxF p l = (k : Int) := by
  unfold idxF
  have : l.findIdx? p = some k := by
    rw [List.findIdx?_eq_some_iff_getElem]
    obtain ⟨hk, e⟩ := List.getElem?_eq_some_iff.1 hx
    refine ⟨hk, by rw [e]; exact hr, fun j hj => ?_⟩
    have := h1 l[j] (List.mem_take_iff_getElem.2 ⟨j, by omega, rfl⟩)
    simp [this]
  rw [this]
theorem idxF_none {p : RC → Bool} {l : List RC} (h1 : ∀ x ∈ l, p x = false) : idxF p l = -1 := by
  unfold idxF
  have : l.findIdx? p = none := List.findIdx?_eq_none_iff.2 h1
  rw [this]
set_option maxRecDepth 100000 in
theorem indexfunc_c (p : RC → Bool) (l : List RC) (v : Value) (e : Nat) {fv : AV} {f : Nat} {caps : List AV} [TFun Tryz.prog f] (hF : Fv fv f caps) (h : Heap) (hl : l.length ≤ 1000000)
    (hp : ∀ r ∈ l, ACalls Tryz.prog f (r.enc :: caps) h (fun z h' => z = .val (.bool (p r)) ∧ h' = h)) :
    ACalls Tryz.prog 113 [.val v, fv] (.own v 4 (l.map RC.enc) e :: h) (fun r h' => r = .val (.int .i64 (idxF p l)) ∧ h' = .own v 4 (l.map RC.enc) e :: h) := by
  refine ACalls.intro Tryz.func113 rfl Tryz.ntmps113 Tryz.results113 (Nat.le_of_ble_eq_true rfl) ?_
  (repeat' (first|refine svz ⟨fun b hq=>?_⟩|refine svA ⟨?_⟩|refine svu ⟨fun u=>?_⟩|(refine svG (fun hc=>?_) (fun hc=>?_)<;>try exact svx)|refine svh (fun hb=>?_) (fun hb=>?_)|refine svb (fun b=>?_)|fail))
  refine W.loop (J := fun k : Nat => ⟨19, [(8, .val (.int .i64 (k : Int))), (7, .val (.int .i64 (l.length : Int))), (6, .val v), (0, .val v), (1, fv)], .own v 4 (l.map RC.enc) e :: h⟩)
    (Φ := fun k => k ≤ l.length ∧ ∀ x ∈ l.take k, p x = false) (μ := fun k => l.length - k) 0 lee ⟨Nat.zero_le _, by simp⟩ ?_
  rintro k ⟨hk, hn⟩
  rcases Nat.lt_or_ge k l.length with hlt | hge
  · obtain ⟨r, hx⟩ : ∃ r, l[k]? = some r := ⟨_, List.getElem?_eq_getElem hlt⟩
    have hr : r ∈ l := List.mem_of_getElem? hx
    (repeat' (first|refine svz ⟨fun b hq=>?_⟩|refine svA ⟨?_⟩|refine svu ⟨fun u=>?_⟩|(refine svG (fun hc=>?_) (fun hc=>?_)<;>try exact svx)|refine svh (fun hb=>?_) (fun hb=>?_)|refine svb (fun b=>?_)|fail))
    refine S.callv hF ?_
    refine (hp r hr).keep1.mono ?_
    rintro z h' ⟨rfl, hh⟩; subst hh
    cases hpr : p r with
    | true =>
      rw [idxF_some hn hx hpr]
      (repeat' (first|refine svz ⟨fun b hq=>?_⟩|refine svA ⟨?_⟩|refine svu ⟨fun u=>?_⟩|(refine svG (fun hc=>?_) (fun hc=>?_)<;>try exact svx)|refine svh (fun hb=>?_) (fun hb=>?_)|refine svb (fun b=>?_)|fail))
      exact fin_r (h' := _) ⟨rfl, rfl⟩
    | false =>
      (repeat' (first|refine svz ⟨fun b hq=>?_⟩|refine svA ⟨?_⟩|refine svu ⟨fun u=>?_⟩|(refine svG (fun hc=>?_) (fun hc=>?_)<;>try exact svx)|refine svh (fun hb=>?_) (fun hb=>?_)|refine svb (fun b=>?_)|fail))
      refine ⟨k + 1, ⟨hlt, fun y hy => ?_⟩, lee, by omega⟩
      rw [List.take_add_one, hx] at hy
      rcases List.mem_append.1 hy with hy | hy
      · exact hn y hy
      · simp at hy; rw [hy]; exact hpr
  · rw [List.take_of_length_le hge] at hn
    rw [idxF_none hn]
    (repeat' (first|refine svz ⟨fun b hq=>?_⟩|refine svA ⟨?_⟩|refine svu ⟨fun u=>?_⟩|(refine svG (fun hc=>?_) (fun hc=>?_)<;>try exact svx)|refine svh (fun hb=>?_) (fun hb=>?_)|refine svb (fun b=>?_)|fail))
    exact fin_r (h' := _) ⟨rfl, rfl⟩
end Go.Proofs.YtfbegifmhgkpjaaGreat
