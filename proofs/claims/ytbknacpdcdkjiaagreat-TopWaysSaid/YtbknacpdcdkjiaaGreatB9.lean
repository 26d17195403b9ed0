import Derived.Test.YtbknacpdcdkjiaaGreatB7
import Derived.Test.YtbknacpdcdkjiaaGreatU4
/- The closures of band.Of: by which the rectangles are sorted, thrown out, compared. No condition. -/
namespace Go.Proofs.YtbknacpdcdkjiaaGreat
open Go Go.VM
set_option maxRecDepth 100000
attribute [local irreducible] PurV Pur Step RL W D ACalls Then InBlock Fini
set_option linter.unusedVariables false
set_option linter.unusedSimpArgs false
set_option maxHeartbeats 20000000
def cmpI (a b : Int) : Int := if a < b then -1 else if b < a then 1 else 0
theorem isnan_c (a : Int) (h : Heap) : ACalls Tryz.prog 159 [.val (.int .i64 a)] h (fun r h' => r = .val (.bool false) ∧ h' = h) := by
  refine ACalls.intro Tryz.func159 rfl Tryz.ntmps159 Tryz.results159 (Nat.le_of_ble_eq_true rfl) ?_
  (repeat' (first|refine svz ⟨fun b hq=>?_⟩|refine svA ⟨?_⟩|refine svu ⟨fun u=>?_⟩|(refine svG (fun hg=>?_) (fun hg=>?_)<;>try exact svx)|refine svh (fun hb=>?_) (fun hb=>?_)|refine svb (fun b=>?_)|fail))
  refine fin_r (h' := _) ⟨?_, rfl⟩
  simp [tupA]
theorem compare_c (a b : Int) (h : Heap) : ACalls Tryz.prog 134 [.val (.int .i64 a), .val (.int .i64 b)] h (fun r h' => r = .val (.int .i64 (cmpI a b)) ∧ h' = h) := by
  refine ACalls.intro Tryz.func134 rfl Tryz.ntmps134 Tryz.results134 (Nat.le_of_ble_eq_true rfl) ?_
  (repeat' (first|refine svz ⟨fun b hq=>?_⟩|refine svA ⟨?_⟩|refine svu ⟨fun u=>?_⟩|(refine svG (fun hg=>?_) (fun hg=>?_)<;>try exact svx)|refine svh (fun hb=>?_) (fun hb=>?_)|refine svb (fun b=>?_)|fail))
  refine S.call ?_; refine (isnan_c a _).mono ?_; rintro r h' ⟨rfl, hh⟩; subst hh
  (repeat' (first|refine svz ⟨fun b hq=>?_⟩|refine svA ⟨?_⟩|refine svu ⟨fun u=>?_⟩|(refine svG (fun hg=>?_) (fun hg=>?_)<;>try exact svx)|refine svh (fun hb=>?_) (fun hb=>?_)|refine svb (fun b=>?_)|fail))
  refine S.call ?_; refine (isnan_c b _).mono ?_; rintro r h' ⟨rfl, hh⟩; subst hh
  unfold cmpI
  by_cases h1 : a < b
  · rw [if_pos h1]
    (repeat' (first|refine svz ⟨fun b hq=>?_⟩|refine svA ⟨?_⟩|refine svu ⟨fun u=>?_⟩|(refine svG (fun hg=>?_) (fun hg=>?_)<;>try exact svx)|refine svh (fun hb=>?_) (fun hb=>?_)|refine svb (fun b=>?_)|fail))
    exact fin_r (h' := _) ⟨rfl, rfl⟩
  · rw [if_neg h1]
    by_cases h2 : b < a
    · rw [if_pos h2]
      (repeat' (first|refine svz ⟨fun b hq=>?_⟩|refine svA ⟨?_⟩|refine svu ⟨fun u=>?_⟩|(refine svG (fun hg=>?_) (fun hg=>?_)<;>try exact svx)|refine svh (fun hb=>?_) (fun hb=>?_)|refine svb (fun b=>?_)|fail))
      exact fin_r (h' := _) ⟨rfl, rfl⟩
    · rw [if_neg h2]
      (repeat' (first|refine svz ⟨fun b hq=>?_⟩|refine svA ⟨?_⟩|refine svu ⟨fun u=>?_⟩|(refine svG (fun hg=>?_) (fun hg=>?_)<;>try exact svx)|refine svh (fun hb=>?_) (fun hb=>?_)|refine svb (fun b=>?_)|fail))
      exact fin_r (h' := _) ⟨rfl, rfl⟩
def orI (a b : Int) : Int := if a ≠ 0 then a else b
theorem or_c (a b : Int) (h : Heap) : ACalls Tryz.prog 133 [.ro 1 [.val (.int .i64 a), .val (.int .i64 b)]] h (fun r h' => r = .val (.int .i64 (orI a b)) ∧ h' = h) := by
  refine ACalls.intro Tryz.func133 rfl Tryz.ntmps133 Tryz.results133 (Nat.le_of_ble_eq_true rfl) ?_
  (repeat' (first|refine svz ⟨fun b hq=>?_⟩|refine svA ⟨?_⟩|refine svu ⟨fun u=>?_⟩|(refine svG (fun hg=>?_) (fun hg=>?_)<;>try exact svx)|refine svh (fun hb=>?_) (fun hb=>?_)|refine svb (fun b=>?_)|fail))
  refine W.loop (J := fun k : Nat => ⟨18, [(8, .val (.int .i64 (k : Int))), (7, .val (.int .i64 2)), (6, .ro 1 [.val (.int .i64 a), .val (.int .i64 b)]), (3, .val (.int .i64 0))], h⟩)
    (Φ := fun k => k ≤ 2 ∧ (0 < k → a = 0) ∧ (1 < k → b = 0)) (μ := fun k => 2 - k) 0 lee ⟨by omega, by omega, by omega⟩ ?_
  rintro k ⟨hk, h1, h2⟩
  unfold orI
  obtain rfl | rfl | rfl : k = 0 ∨ k = 1 ∨ k = 2 := by omega
  · by_cases ha : a = 0
    · (repeat' (first|refine svz ⟨fun b hq=>?_⟩|refine svA ⟨?_⟩|refine svu ⟨fun u=>?_⟩|(refine svG (fun hg=>?_) (fun hg=>?_)<;>try exact svx)|refine svh (fun hb=>?_) (fun hb=>?_)|refine svb (fun b=>?_)|fail))
      exact ⟨1, ⟨by omega, fun _ => ha, by omega⟩, lee, by omega⟩
    · rw [if_pos ha]
      (repeat' (first|refine svz ⟨fun b hq=>?_⟩|refine svA ⟨?_⟩|refine svu ⟨fun u=>?_⟩|(refine svG (fun hg=>?_) (fun hg=>?_)<;>try exact svx)|refine svh (fun hb=>?_) (fun hb=>?_)|refine svb (fun b=>?_)|fail))
      exact fin_r (h' := _) ⟨rfl, rfl⟩
  · rw [if_neg (by simpa using h1 (by omega))]
    by_cases hb : b = 0
    · (repeat' (first|refine svz ⟨fun b hq=>?_⟩|refine svA ⟨?_⟩|refine svu ⟨fun u=>?_⟩|(refine svG (fun hg=>?_) (fun hg=>?_)<;>try exact svx)|refine svh (fun hb=>?_) (fun hb=>?_)|refine svb (fun b=>?_)|fail))
      exact ⟨2, ⟨by omega, fun _ => h1 (by omega), fun _ => hb⟩, lee, by omega⟩
    · (repeat' (first|refine svz ⟨fun b hq=>?_⟩|refine svA ⟨?_⟩|refine svu ⟨fun u=>?_⟩|(refine svG (fun hg=>?_) (fun hg=>?_)<;>try exact svx)|refine svh (fun hb=>?_) (fun hb=>?_)|refine svb (fun b=>?_)|fail))
      exact fin_r (h' := _) ⟨rfl, rfl⟩
  · rw [if_neg (by simpa using h1 (by omega)), h2 (by omega)]
    (repeat' (first|refine svz ⟨fun b hq=>?_⟩|refine svA ⟨?_⟩|refine svu ⟨fun u=>?_⟩|(refine svG (fun hg=>?_) (fun hg=>?_)<;>try exact svx)|refine svh (fun hb=>?_) (fun hb=>?_)|refine svb (fun b=>?_)|fail))
    exact fin_r (h' := _) ⟨rfl, rfl⟩
def cmpYX (a b : RC) : Int := orI (cmpI a.y b.y) (cmpI a.x b.x)
theorem cmp1_c (p q : RC) (h : Heap) : ACalls Tryz.prog 132 [p.enc, q.enc] h (fun r h' => r = .val (.int .i64 (cmpYX p q)) ∧ h' = h) := by
  refine ACalls.intro Tryz.func132 rfl Tryz.ntmps132 Tryz.results132 (Nat.le_of_ble_eq_true rfl) ?_
  (repeat' (first|refine svz ⟨fun b hq=>?_⟩|refine svA ⟨?_⟩|refine svu ⟨fun u=>?_⟩|(refine svG (fun hg=>?_) (fun hg=>?_)<;>try exact svx)|refine svh (fun hb=>?_) (fun hb=>?_)|refine svb (fun b=>?_)|fail))
  refine R2.C (compare_c p.y q.y _) ?_
  (repeat' (first|refine svz ⟨fun b hq=>?_⟩|refine svA ⟨?_⟩|refine svu ⟨fun u=>?_⟩|(refine svG (fun hg=>?_) (fun hg=>?_)<;>try exact svx)|refine svh (fun hb=>?_) (fun hb=>?_)|refine svb (fun b=>?_)|fail))
  refine R2.C (compare_c p.x q.x _) ?_
  refine R2.two ?_
  refine R2.C (or_c _ _ _) ?_
  (repeat' (first|refine svz ⟨fun b hq=>?_⟩|refine svA ⟨?_⟩|refine svu ⟨fun u=>?_⟩|(refine svG (fun hg=>?_) (fun hg=>?_)<;>try exact svx)|refine svh (fun hb=>?_) (fun hb=>?_)|refine svb (fun b=>?_)|fail))
  exact fin_r (h' := _) ⟨rfl, rfl⟩
theorem cmp3_c (p q : RC) (h : Heap) : ACalls Tryz.prog 138 [p.enc, q.enc] h (fun r h' => r = .val (.int .i64 (cmpI p.x q.x)) ∧ h' = h) := by
  refine ACalls.intro Tryz.func138 rfl Tryz.ntmps138 Tryz.results138 (Nat.le_of_ble_eq_true rfl) ?_
  (repeat' (first|refine svz ⟨fun b hq=>?_⟩|refine svA ⟨?_⟩|refine svu ⟨fun u=>?_⟩|(refine svG (fun hg=>?_) (fun hg=>?_)<;>try exact svx)|refine svh (fun hb=>?_) (fun hb=>?_)|refine svb (fun b=>?_)|fail))
  refine S.call ?_; refine (compare_c p.x q.x _).mono ?_; rintro r h' ⟨rfl, hh⟩; subst hh
  (repeat' (first|refine svz ⟨fun b hq=>?_⟩|refine svA ⟨?_⟩|refine svu ⟨fun u=>?_⟩|(refine svG (fun hg=>?_) (fun hg=>?_)<;>try exact svx)|refine svh (fun hb=>?_) (fun hb=>?_)|refine svb (fun b=>?_)|fail))
  exact fin_r (h' := _) ⟨rfl, rfl⟩
theorem del_c (r : RC) (y : Int) (g : Nat) (h : Heap) (hc : r.cnt) : ACalls Tryz.prog 137 [r.enc, .val (.pointer (some ⟨g, 0, none⟩))] (.box g [.val (.int .i64 y)] 3 :: h) (fun v h' => v = .val (.bool (decide (r.y + r.h ≤ y))) ∧ h' = .box g [.val (.int .i64 y)] 3 :: h) := by
  refine ACalls.intro Tryz.func137 rfl Tryz.ntmps137 Tryz.results137 (Nat.le_of_ble_eq_true rfl) ?_
  obtain ⟨⟨a1, a2, a3⟩, ⟨a4, a5, a6⟩⟩ := hc
  (repeat' (first|refine svz ⟨fun b hq=>?_⟩|refine svA ⟨?_⟩|refine svu ⟨fun u=>?_⟩|(refine svG (fun hg=>?_) (fun hg=>?_)<;>try exact svx)|refine svh (fun hb=>?_) (fun hb=>?_)|refine svb (fun b=>?_)|fail))
  exact fin_r (h' := .box g [.val (.int .i64 y)] 3 :: h) ⟨rfl, rfl⟩
def goesOn (a b : RC) : Prop := a.x = b.x ∧ a.w = b.w ∧ a.y + a.h = b.y
instance (a b : RC) : Decidable (goesOn a b) := inferInstanceAs (Decidable (_ ∧ _ ∧ _))
theorem same1_c (p q : RC) (h : Heap) (hc : p.cnt) : ACalls Tryz.prog 165 [p.enc, q.enc] h (fun v h' => v = .val (.bool (decide (goesOn p q))) ∧ h' = h) := by
  refine ACalls.intro Tryz.func165 rfl Tryz.ntmps165 Tryz.results165 (Nat.le_of_ble_eq_true rfl) ?_
  obtain ⟨⟨a1, a2, a3⟩, ⟨a4, a5, a6⟩⟩ := hc
  by_cases h1 : p.x = q.x
  · by_cases h2 : p.w = q.w
    · (repeat' (first|refine svz ⟨fun b hq=>?_⟩|refine svA ⟨?_⟩|refine svu ⟨fun u=>?_⟩|(refine svG (fun hg=>?_) (fun hg=>?_)<;>try exact svx)|refine svh (fun hb=>?_) (fun hb=>?_)|refine svb (fun b=>?_)|fail))
      refine fin_r (h' := _) ⟨?_, rfl⟩
      refine congrArg (fun b => AV.val (.bool b)) (decide_eq_decide.2 ?_)
      unfold goesOn; simp [h1, h2]
    · (repeat' (first|refine svz ⟨fun b hq=>?_⟩|refine svA ⟨?_⟩|refine svu ⟨fun u=>?_⟩|(refine svG (fun hg=>?_) (fun hg=>?_)<;>try exact svx)|refine svh (fun hb=>?_) (fun hb=>?_)|refine svb (fun b=>?_)|fail))
      refine fin_r (h' := _) ⟨?_, rfl⟩
      rw [decide_eq_false (show ¬ goesOn p q from fun z => h2 z.2.1)]; rfl
  · (repeat' (first|refine svz ⟨fun b hq=>?_⟩|refine svA ⟨?_⟩|refine svu ⟨fun u=>?_⟩|(refine svG (fun hg=>?_) (fun hg=>?_)<;>try exact svx)|refine svh (fun hb=>?_) (fun hb=>?_)|refine svb (fun b=>?_)|fail))
    refine fin_r (h' := _) ⟨?_, rfl⟩
    rw [decide_eq_false (show ¬ goesOn p q from fun z => h1 z.1)]; rfl
end Go.Proofs.YtbknacpdcdkjiaaGreat

/- The library's functions on slices of rectangles. No condition. -/
namespace Go.VM
open Go
set_option maxRecDepth 100000
theorem ACalls.keep1 {P : Program} {g : Nat} {vs : List AV} {h : Heap} {v : AV} {x : OE} (k : ACalls P g vs h (fun r h' => r = v ∧ h' = h)) : ACalls P g vs (x :: h) (fun r h' => r = v ∧ h' = x :: h) :=
  (k.beside [x]).mono fun r h' ⟨h1, ⟨e1, e2⟩, e3⟩ => ⟨e1, by rw [e3, e2]; rfl⟩
theorem ACalls.keep2 {P : Program} {g : Nat} {vs : List AV} {h : Heap} {v : AV} {x y : OE} (k : ACalls P g vs h (fun r h' => r = v ∧ h' = h)) : ACalls P g vs (x :: y :: h) (fun r h' => r = v ∧ h' = x :: y :: h) := k.keep1.keep1
end Go.VM
namespace Go.Proofs.YtbknacpdcdkjiaaGreat
open Go Go.VM
set_option maxRecDepth 100000
attribute [local irreducible] PurV Pur Step RL W D ACalls Then InBlock Fini
set_option linter.unusedVariables false
set_option linter.unusedSimpArgs false
set_option maxHeartbeats 20000000
def idxF (p : RC → Bool) (l : List RC) : Int := match l.findIdx? p with
  | some i => (i : Int)
  | none => -1
theorem idxF_some {p : RC → Bool} {l : List RC} {k : Nat} {r : RC} (h1 : ∀ x ∈ l.take k, p x = false) (hx : l[k]? = some r) (hr : p r = true) : idxF p l = (k : Int) := by
  unfold idxF
  have : l.findIdx? p = some k := by
    rw [List.findIdx?_eq_some_iff_getElem]
    obtain ⟨hk, e⟩ := List.getElem?_eq_some_iff.1 hx
    refine ⟨hk, by rw [e]; exact hr, fun j hj => ?_⟩
    have := h1 l[j] (List.mem_take_iff_getElem.2 ⟨j, by omega, rfl⟩)
    simp [this]
  rw [this]
theorem idxF_none {p : RC → Bool} {l : List RC} (h1 : ∀ x ∈ l, p x = false) : idxF p l = -1 := by
  unfold idxF
  have : l.findIdx? p = none := List.findIdx?_eq_none_iff.2 h1
  rw [this]
theorem indexfunc_c (p : RC → Bool) (l : List RC) (v : Value) (e : Nat) {fv : AV} {f : Nat} {caps : List AV} [TFun Tryz.prog f] (hF : Fv fv f caps) (h : Heap) (hl : l.length ≤ 1000000)
    (hp : ∀ r ∈ l, ACalls Tryz.prog f (r.enc :: caps) h (fun z h' => z = .val (.bool (p r)) ∧ h' = h)) :
    ACalls Tryz.prog 162 [.val v, fv] (.own v 4 (l.map RC.enc) e :: h) (fun r h' => r = .val (.int .i64 (idxF p l)) ∧ h' = .own v 4 (l.map RC.enc) e :: h) := by
  refine ACalls.intro Tryz.func162 rfl Tryz.ntmps162 Tryz.results162 (Nat.le_of_ble_eq_true rfl) ?_
  (repeat' (first|refine svz ⟨fun b hq=>?_⟩|refine svA ⟨?_⟩|refine svu ⟨fun u=>?_⟩|(refine svG (fun hg=>?_) (fun hg=>?_)<;>try exact svx)|refine svh (fun hb=>?_) (fun hb=>?_)|refine svb (fun b=>?_)|fail))
  refine W.loop (J := fun k : Nat => ⟨19, [(8, .val (.int .i64 (k : Int))), (7, .val (.int .i64 (l.length : Int))), (6, .val v), (0, .val v), (1, fv)], .own v 4 (l.map RC.enc) e :: h⟩)
    (Φ := fun k => k ≤ l.length ∧ ∀ x ∈ l.take k, p x = false) (μ := fun k => l.length - k) 0 lee ⟨Nat.zero_le _, by simp⟩ ?_
  rintro k ⟨hk, hn⟩
  rcases Nat.lt_or_ge k l.length with hlt | hge
  · obtain ⟨r, hx⟩ : ∃ r, l[k]? = some r := ⟨_, List.getElem?_eq_getElem hlt⟩
    have hr : r ∈ l := List.mem_of_getElem? hx
    (repeat' (first|refine svz ⟨fun b hq=>?_⟩|refine svA ⟨?_⟩|refine svu ⟨fun u=>?_⟩|(refine svG (fun hg=>?_) (fun hg=>?_)<;>try exact svx)|refine svh (fun hb=>?_) (fun hb=>?_)|refine svb (fun b=>?_)|fail))
    refine S.callv hF ?_
    refine (hp r hr).keep1.mono ?_
    rintro z h' ⟨rfl, hh⟩; subst hh
    cases hpr : p r with
    | true =>
      rw [idxF_some hn hx hpr]
      (repeat' (first|refine svz ⟨fun b hq=>?_⟩|refine svA ⟨?_⟩|refine svu ⟨fun u=>?_⟩|(refine svG (fun hg=>?_) (fun hg=>?_)<;>try exact svx)|refine svh (fun hb=>?_) (fun hb=>?_)|refine svb (fun b=>?_)|fail))
      exact fin_r (h' := _) ⟨rfl, rfl⟩
    | false =>
      (repeat' (first|refine svz ⟨fun b hq=>?_⟩|refine svA ⟨?_⟩|refine svu ⟨fun u=>?_⟩|(refine svG (fun hg=>?_) (fun hg=>?_)<;>try exact svx)|refine svh (fun hb=>?_) (fun hb=>?_)|refine svb (fun b=>?_)|fail))
      refine ⟨k + 1, ⟨hlt, fun y hy => ?_⟩, lee, by omega⟩
      rw [List.take_add_one, hx] at hy
      rcases List.mem_append.1 hy with hy | hy
      · exact hn y hy
      · simp at hy; rw [hy]; exact hpr
  · rw [List.take_of_length_le hge] at hn
    rw [idxF_none hn]
    (repeat' (first|refine svz ⟨fun b hq=>?_⟩|refine svA ⟨?_⟩|refine svu ⟨fun u=>?_⟩|(refine svG (fun hg=>?_) (fun hg=>?_)<;>try exact svx)|refine svh (fun hb=>?_) (fun hb=>?_)|refine svb (fun b=>?_)|fail))
    exact fin_r (h' := _) ⟨rfl, rfl⟩
end Go.Proofs.YtbknacpdcdkjiaaGreat
