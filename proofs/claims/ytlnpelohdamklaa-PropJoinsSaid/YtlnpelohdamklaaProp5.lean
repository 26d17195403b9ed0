import Derived.Test.YtlnpelohdamklaaProp4
import Derived.Outline
namespace Go.Proofs.Ytlnpelohdamklaa
open Go.RowKit
set_option linter.unusedVariables false
set_option linter.unusedSimpArgs false

/-- What Change makes, and tells. -/
def newData (mode : Int) (old p : PR) : List Int := if mode = 0 then p.data else if mode = 1 then p.data ++ old.data else old.data ++ p.data
def changeF (ps : List PR) (mode : Int) (p : PR) : List PR × Int :=
  if mode ≠ 0 ∧ mode ≠ 1 ∧ mode ≠ 2 then (ps, 10) else if chkF p ≠ 0 then (ps, chkF p) else
    match ps.findIdx? (fun q => q.name == p.name) with
    | none => if 64 ≤ ps.length then (ps, 12) else (ps ++ [p], 0)
    | some i => match ps[i]? with
      | none => (ps, 0)
      | some old => if mode ≠ 0 ∧ (old.typ ≠ p.typ ∨ old.fmt ≠ p.fmt) then (ps, 14) else if mode ≠ 0 ∧ 16384 < old.data.length + p.data.length then (ps, 4)
        else (ps.set i { p with data := newData mode old p }, 0)

def ChangePost (F : Foot) (w : World) (r : List PR × Int) (e : Ending) (w' : World) : Prop :=
  ∃ v', e = .returned (.tuple #[.agg #[v'], .int .i64 r.2]) ∧ Below w.heap.size w w' ∧ Props (up F w.heap.size) w' v' r.1

theorem changePost_same {F : Foot} {w w' : World} {v : Value} {ps : List PR} {k : Int} (hv : Props F w v ps) (hb : Below w.heap.size w w') : ChangePost F w (ps, k) (.returned (.tuple #[.agg #[v], .int .i64 k])) w' :=
  ⟨v, rfl, hb, (hv.below hb (Nat.le_refl _)).wider fun b h _ => .inl h⟩
set_option maxRecDepth 100000 in
set_option maxHeartbeats 400000 in
theorem change_kind {F : Foot} (v : Value) (ps : List PR) (mode : Int) (p : PR) (dv : Value) (w : World) (hv : Props F w v ps) (hm : mode ≠ 0 ∧ mode ≠ 1 ∧ mode ≠ 2) :
    Calls Try.prog 10 #[.agg #[v], .int .i64 mode, p.val dv] w (ChangePost F w (ps, 10)) := by
  obtain ⟨m0, m1, m2⟩ := hm
  have n0 : (mode != 0) = true := by simpa using m0
  have n1 : (mode != 1) = true := by simpa using m1
  have n2 : (mode != 2) = true := by simpa using m2
  obtain ⟨A, c, rfl, _⟩ := SlOf.shape hv
  have HV := Lib.hid hv
  clear m0 m1 m2 hv
  obtain ⟨nm, ty, fm, data⟩ := p
  unfold PR.val
  go_enter Try.func10, Try.ntmps10
  go_wp2
  refine bodyPost_ret (v := .tuple #[.agg #[.slice A ps.length c], .int .i64 10]) (by simp [results, Try.results10, go_sem]) rfl ?_
  exact changePost_same HV.out (by repeat' (first | (with_reducible exact Below.refl _ _) | (with_reducible assumption) | (with_reducible refine Below.setCell ?_ ?_ _) | (with_reducible refine Below.alloc ?_ ?_ _) | (with_reducible refine Below.drew ?_) | omega | (simp; done) | (simp; omega)))

set_option maxRecDepth 100000 in
set_option maxHeartbeats 400000 in
theorem change_bad {F G : Foot} (v : Value) (ps : List PR) (mode : Int) (p : PR) (dv : Value) (w : World) (hv : Props F w v ps) (hm : mode = 0 ∨ mode = 1 ∨ mode = 2) (hp : p.ok) (hd : Ints G w .i64 dv p.data) (hc : chkF p ≠ 0) :
    Calls Try.prog 10 #[.agg #[v], .int .i64 mode, p.val dv] w (ChangePost F w (ps, chkF p)) := by
  obtain ⟨A, c, rfl, _⟩ := SlOf.shape hv
  obtain ⟨B, d, rfl, _⟩ := hd.shape
  have HV := Lib.hid hv
  have HD := Lib.hid hd
  have HP := Lib.hid hp
  have hc' : (chkF p != 0) = true := by simpa using hc
  obtain ⟨eC, hC⟩ : ∃ x, x = chkF p := ⟨_, rfl⟩
  have HC := Lib.hid hC
  rw [← hC] at hc' ⊢
  clear hv hd hp hc hC
  obtain ⟨nm, ty, fm, data⟩ := p
  unfold PR.val
  rcases hm with rfl | rfl | rfl
  all_goals
    go_enter Try.func10, Try.ntmps10
    go_wp2_with (go_at_call 22; go_must (refine (check_any ⟨nm, ty, fm, data⟩ HP.out _ _ (HD.out.below (by repeat' (first | (with_reducible exact Below.refl _ _) | (with_reducible assumption) | (with_reducible refine Below.setCell ?_ ?_ _) | (with_reducible refine Below.alloc ?_ ?_ _) | (with_reducible refine Below.drew ?_) | omega | (simp; done) | (simp; omega))) (Nat.le_refl _))).mono ?_; rw [← HC.out]; rintro e w1 ⟨rfl, hb1⟩; have hz1 := hb1.size; (try simp at hz1); have hc1 := fun (b o : Nat) (h : b < w.heap.size + 3) => hb1.cell (p := ⟨b, o, none⟩) (by first | omega | (simp; done) | (simp; omega)); have hf1 := fun (b o : Nat) (h : b < w.heap.size + 3) => hb1.frozen (p := ⟨b, o, none⟩) (by first | omega | (simp; done) | (simp; omega)); have hB1 : Below w.heap.size w w1 := Below.trans (by repeat' (first | (with_reducible exact Below.refl _ _) | (with_reducible assumption) | (with_reducible refine Below.setCell ?_ ?_ _) | (with_reducible refine Below.alloc ?_ ?_ _) | (with_reducible refine Below.drew ?_) | omega | (simp; done) | (simp; omega))) (hb1.mono (by first | omega | (simp; done) | (simp; omega))); (try have hy1 : w.heap.size < w1.heap.size := by omega); (try have hyb1 : w.heap.size + 1 < w1.heap.size := by omega); (try have hyc1 : w.heap.size + 1 + 1 < w1.heap.size := by omega); (try have hyd1 : w.heap.size + 1 + 1 + 1 < w1.heap.size := by omega)))
    refine bodyPost_ret (v := .tuple #[.agg #[.slice A ps.length c], .int .i64 eC]) (by simp [results, Try.results10, go_sem, hc1, hz1]) rfl ?_
    exact changePost_same HV.out (by repeat' (first | (with_reducible exact Below.refl _ _) | (with_reducible assumption) | (with_reducible refine Below.setCell ?_ ?_ _) | (with_reducible refine Below.alloc ?_ ?_ _) | (with_reducible refine Below.drew ?_) | omega | (simp; done) | (simp; omega)))

theorem atF_none {ps : List PR} {n : Int} (h : ps.findIdx? (fun q => q.name == n) = none) : atF ps n = -1 := by simp [atF, h]
theorem atF_some {ps : List PR} {n : Int} {i : Nat} (h : ps.findIdx? (fun q => q.name == n) = some i) : atF ps n = i := by simp [atF, h]

set_option maxRecDepth 100000 in
set_option maxHeartbeats 400000 in
theorem change_full {F G : Foot} (v : Value) (ps : List PR) (mode : Int) (p : PR) (dv : Value) (w : World) (hv : Props F w v ps) (hm : mode = 0 ∨ mode = 1 ∨ mode = 2) (hp : p.ok) (hd : Ints G w .i64 dv p.data) (hc : chkF p = 0)
    (hi : ps.findIdx? (fun q => q.name == p.name) = none) (hl : 64 ≤ ps.length) :
    Calls Try.prog 10 #[.agg #[v], .int .i64 mode, p.val dv] w (ChangePost F w (ps, 12)) := by
  obtain ⟨A, c, rfl, k1, k2⟩ := SlOf.shape hv
  obtain ⟨B, d, rfl, _⟩ := hd.shape
  have HV := Lib.hid hv
  have HD := Lib.hid hd
  have HP := Lib.hid hp
  have HC := Lib.hid hc
  have HI := Lib.hid (atF_none hi)
  have hl' : (64 : Int) ≤ (ps.length : Int) := by omega
  clear hv hd hp hc hi
  obtain ⟨nm, ty, fm, data⟩ := p
  unfold PR.val
  rcases hm with rfl | rfl | rfl
  all_goals
    go_enter Try.func10, Try.ntmps10
    go_wp2_with (first
      | (go_at_call 22; go_must (refine (check_any ⟨nm, ty, fm, data⟩ HP.out _ _ (HD.out.below (by repeat' (first | (with_reducible exact Below.refl _ _) | (with_reducible assumption) | (with_reducible refine Below.setCell ?_ ?_ _) | (with_reducible refine Below.alloc ?_ ?_ _) | (with_reducible refine Below.drew ?_) | omega | (simp; done) | (simp; omega))) (Nat.le_refl _))).mono ?_; rw [HC.out]; rintro e w1 ⟨rfl, hb1⟩; have hz1 := hb1.size; (try simp at hz1); have hc1 := fun (b o : Nat) (h : b < w.heap.size + 3) => hb1.cell (p := ⟨b, o, none⟩) (by first | omega | (simp; done) | (simp; omega)); have hf1 := fun (b o : Nat) (h : b < w.heap.size + 3) => hb1.frozen (p := ⟨b, o, none⟩) (by first | omega | (simp; done) | (simp; omega)); have hB1 : Below w.heap.size w w1 := Below.trans (by repeat' (first | (with_reducible exact Below.refl _ _) | (with_reducible assumption) | (with_reducible refine Below.setCell ?_ ?_ _) | (with_reducible refine Below.alloc ?_ ?_ _) | (with_reducible refine Below.drew ?_) | omega | (simp; done) | (simp; omega))) (hb1.mono (by first | omega | (simp; done) | (simp; omega))); (try have hy1 : w.heap.size < w1.heap.size := by omega); (try have hyb1 : w.heap.size + 1 < w1.heap.size := by omega); (try have hyc1 : w.heap.size + 1 + 1 < w1.heap.size := by omega); (try have hyd1 : w.heap.size + 1 + 1 + 1 < w1.heap.size := by omega)))
      | (go_at_call 23; go_must (refine (at_any _ ps nm _ (HV.out.below (by repeat' (first | (with_reducible exact Below.refl _ _) | (with_reducible assumption) | (with_reducible refine Below.setCell ?_ ?_ _) | (with_reducible refine Below.alloc ?_ ?_ _) | (with_reducible refine Below.drew ?_) | omega | (simp; done) | (simp; omega))) (Nat.le_refl _))).mono ?_; rw [HI.out]; rintro e w2 ⟨rfl, hb2⟩; have hz2 := hb2.size; (try simp at hz2); have hc2 := fun (b o : Nat) (h : b < w.heap.size + 3) => hb2.cell (p := ⟨b, o, none⟩) (by first | omega | (simp; done) | (simp; omega)); have hf2 := fun (b o : Nat) (h : b < w.heap.size + 3) => hb2.frozen (p := ⟨b, o, none⟩) (by first | omega | (simp; done) | (simp; omega)); have hB2 : Below w.heap.size w w2 := Below.trans (by repeat' (first | (with_reducible exact Below.refl _ _) | (with_reducible assumption) | (with_reducible refine Below.setCell ?_ ?_ _) | (with_reducible refine Below.alloc ?_ ?_ _) | (with_reducible refine Below.drew ?_) | omega | (simp; done) | (simp; omega))) (hb2.mono (by first | omega | (simp; done) | (simp; omega))); (try have hy2 : w.heap.size < w2.heap.size := by omega); (try have hyb2 : w.heap.size + 1 < w2.heap.size := by omega); (try have hyc2 : w.heap.size + 1 + 1 < w2.heap.size := by omega); (try have hyd2 : w.heap.size + 1 + 1 + 1 < w2.heap.size := by omega))))
    refine bodyPost_ret (v := .tuple #[.agg #[.slice A ps.length c], .int .i64 12]) (by simp [results, Try.results10, go_sem, hc2, hc1, hz1, hz2]) rfl ?_
    exact changePost_same HV.out (by repeat' (first | (with_reducible exact Below.refl _ _) | (with_reducible assumption) | (with_reducible refine Below.setCell ?_ ?_ _) | (with_reducible refine Below.alloc ?_ ?_ _) | (with_reducible refine Below.drew ?_) | omega | (simp; done) | (simp; omega)))
end Go.Proofs.Ytlnpelohdamklaa
