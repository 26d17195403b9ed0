import Derived.Test.YtlnpelohdamklaaProp12
import Derived.Deep.RegionHeld3
import Derived.Outline
namespace Go.Proofs.Ytlnpelohdamklaa
open Go.RowKit
set_option linter.unusedVariables false
set_option linter.unusedSimpArgs false

/-- What is read of a property. -/
structure FD where
  typ : Int
  fmt : Int
  left : Int
  data : List Int
def noFD : FD := ⟨0, 0, 0, []⟩
def FD.val (f : FD) (dv : Value) : Value := .agg #[.int .u32 f.typ, .int .i64 f.fmt, .int .i64 f.left, dv]
def piece (p : PR) (off len : Int) : FD := ⟨p.typ, p.fmt, ((p.data.length - off.toNat - min len.toNat (p.data.length - off.toNat) : Nat) : Int), (p.data.drop off.toNat).take (min len.toNat (p.data.length - off.toNat))⟩
def getF (ps : List PR) (n k off len : Int) (rm : Bool) : List PR × FD × Bool × Int :=
  if off < 0 ∨ len < 0 then (ps, noFD, false, 1) else
  match ps.findIdx? (fun q => q.name == n) with
  | none => (ps, noFD, false, 0)
  | some i => match ps[i]? with
    | none => (ps, noFD, false, 0)
    | some p => if k ≠ 0 ∧ k ≠ p.typ then (ps, ⟨p.typ, p.fmt, p.data.length, []⟩, true, 0)
      else if (p.data.length : Int) < off then (ps, noFD, false, 22)
      else if rm = true ∧ (piece p off len).left = 0 then (ps.eraseIdx i, piece p off len, true, 0) else (ps, piece p off len, true, 0)
def GetPost (F : Foot) (w : World) (r : List PR × FD × Bool × Int) (e : Ending) (w' : World) : Prop :=
  ∃ v' dv, e = .returned (.tuple #[.agg #[v'], r.2.1.val dv, .bool r.2.2.1, .int .i64 r.2.2.2]) ∧ Below w.heap.size w w' ∧ Props (up F w.heap.size) w' v' r.1 ∧ Ints (fun b => w.heap.size ≤ b) w' .i64 dv r.2.1.data
theorem getPost_same {F : Foot} {w w' : World} {v dv : Value} {ps : List PR} {f : FD} {ok : Bool} {k : Int} (hv : Props F w v ps) (hb : Below w.heap.size w w') (hd : Ints (fun b => w.heap.size ≤ b) w' .i64 dv f.data) :
    GetPost F w (ps, f, ok, k) (.returned (.tuple #[.agg #[v], f.val dv, .bool ok, .int .i64 k])) w' :=
  ⟨v, dv, rfl, hb, (hv.below hb (Nat.le_refl _)).wider fun b h _ => .inl h, hd⟩

set_option maxRecDepth 100000 in
set_option maxHeartbeats 1000000 in
theorem get_range {F : Foot} (v : Value) (ps : List PR) (n k off len : Int) (rm : Bool) (w : World) (hv : Props F w v ps) (h : off < 0 ∨ len < 0) :
    Calls Try.prog 16 #[.agg #[v], .int .u32 n, .int .u32 k, .int .i64 off, .int .i64 len, .bool rm] w (GetPost F w (ps, noFD, false, 1)) := by
  obtain ⟨A, c, rfl, _, _⟩ := SlOf.shape hv
  have HV := Lib.hid hv
  clear hv
  by_cases h1 : off < 0
  all_goals
    (try have h2 : len < 0 := by omega)
    clear h
    go_enter Try.func16, Try.ntmps16
    go_wp2
    refine bodyPost_ret (v := .tuple #[.agg #[.slice A ps.length c], .agg #[.int .u32 0, .int .i64 0, .int .i64 0, .slice none 0 0], .bool false, .int .i64 1]) (by simp [results, Try.results16, go_sem]) rfl ?_
    exact getPost_same (f := noFD) HV.out (by repeat' (first | (with_reducible exact Below.refl _ _) | (with_reducible assumption) | (with_reducible refine Below.setCell ?_ ?_ _) | (with_reducible refine Below.alloc ?_ ?_ _) | (with_reducible refine Below.drew ?_) | omega | (simp; done) | (simp; omega))) Ints.zero_

set_option maxRecDepth 100000 in
set_option maxHeartbeats 1000000 in
theorem get_none {F : Foot} (v : Value) (ps : List PR) (n k off len : Int) (rm : Bool) (w : World) (hv : Props F w v ps) (h1 : ¬ off < 0) (h2 : ¬ len < 0) (hi : ps.findIdx? (fun q => q.name == n) = none) :
    Calls Try.prog 16 #[.agg #[v], .int .u32 n, .int .u32 k, .int .i64 off, .int .i64 len, .bool rm] w (GetPost F w (ps, noFD, false, 0)) := by
  obtain ⟨A, c, rfl, _, _⟩ := SlOf.shape hv
  have HV := Lib.hid hv
  have HI := Lib.hid (atF_none hi)
  clear hv hi
  go_enter Try.func16, Try.ntmps16
  go_wp2_with (go_at_call 23; go_must (refine (at_any _ ps n _ (HV.out.below (by repeat' (first | (with_reducible exact Below.refl _ _) | (with_reducible assumption) | (with_reducible refine Below.setCell ?_ ?_ _) | (with_reducible refine Below.alloc ?_ ?_ _) | (with_reducible refine Below.drew ?_) | omega | (simp; done) | (simp; omega))) (Nat.le_refl _))).mono ?_; rw [HI.out]; rintro e w1 ⟨rfl, hb1⟩; have hz1 := hb1.size; (try simp at hz1); have hc1 := fun (b o : Nat) (h : b < w.heap.size + 3) => hb1.cell (p := ⟨b, o, none⟩) (by first | omega | (simp; done) | (simp; omega)); have hf1 := fun (b o : Nat) (h : b < w.heap.size + 3) => hb1.frozen (p := ⟨b, o, none⟩) (by first | omega | (simp; done) | (simp; omega)); have hB1 : Below w.heap.size w w1 := Below.trans (by repeat' (first | (with_reducible exact Below.refl _ _) | (with_reducible assumption) | (with_reducible refine Below.setCell ?_ ?_ _) | (with_reducible refine Below.alloc ?_ ?_ _) | (with_reducible refine Below.drew ?_) | omega | (simp; done) | (simp; omega))) (hb1.mono (by first | omega | (simp; done) | (simp; omega))); (try have hy1 : w.heap.size < w1.heap.size := by omega); (try have hyb1 : w.heap.size + 1 < w1.heap.size := by omega); (try have hyc1 : w.heap.size + 1 + 1 < w1.heap.size := by omega); (try have hyd1 : w.heap.size + 1 + 1 + 1 < w1.heap.size := by omega)))
  refine bodyPost_ret (v := .tuple #[.agg #[.slice A ps.length c], .agg #[.int .u32 0, .int .i64 0, .int .i64 0, .slice none 0 0], .bool false, .int .i64 0]) (by simp [results, Try.results16, go_sem, hc1, hy1, hyb1, hyc1]) rfl ?_
  exact getPost_same (f := noFD) HV.out (by repeat' (first | (with_reducible exact Below.refl _ _) | (with_reducible assumption) | (with_reducible refine Below.setCell ?_ ?_ _) | (with_reducible refine Below.alloc ?_ ?_ _) | (with_reducible refine Below.drew ?_) | omega | (simp; done) | (simp; omega))) Ints.zero_

end Go.Proofs.Ytlnpelohdamklaa
