import Derived.Test.YtlnpelohdamklaaProp11
import Derived.Deep.RegionHeld3
import Derived.Outline
namespace Go.Proofs.Ytlnpelohdamklaa
open Go.RowKit
set_option linter.unusedVariables false
set_option linter.unusedSimpArgs false

def delF (ps : List PR) (n : Int) : List PR × Bool := match ps.findIdx? (fun q => q.name == n) with | some i => (ps.eraseIdx i, true) | none => (ps, false)
def DelPost (F : Foot) (w : World) (r : List PR × Bool) (e : Ending) (w' : World) : Prop :=
  ∃ v', e = .returned (.tuple #[.agg #[v'], .bool r.2]) ∧ Below w.heap.size w w' ∧ Props (up F w.heap.size) w' v' r.1

set_option maxRecDepth 100000 in
set_option maxHeartbeats 1000000 in
theorem delete_any {F : Foot} (v : Value) (ps : List PR) (n : Int) (w : World) (hv : Props F w v ps) (hl : ps.length ≤ 100000) :
    Calls Try.prog 17 #[.agg #[v], .int .u32 n] w (DelPost F w (delF ps n)) := by
  obtain ⟨A, c, rfl, k1, k2⟩ := SlOf.shape hv
  have HV := Lib.hid (Props.wider (G := lo F w.heap.size) hv (fun b h hl => ⟨h, hl⟩))
  clear hv
  cases hi : ps.findIdx? (fun q => q.name == n) with
  | none =>
    rw [show delF ps n = (ps, false) by simp [delF, hi]]
    have HI := Lib.hid (atF_none hi)
    clear hi
    go_enter Try.func17, Try.ntmps17
    go_wp2_with (go_at_call 23; go_must (refine (at_any _ ps n _ (HV.out.below (by repeat' (first | (with_reducible exact Below.refl _ _) | (with_reducible assumption) | (with_reducible refine Below.setCell ?_ ?_ _) | (with_reducible refine Below.alloc ?_ ?_ _) | (with_reducible refine Below.drew ?_) | omega | (simp; done) | (simp; omega))) (Nat.le_refl _))).mono ?_; rw [HI.out]; rintro e w1 ⟨rfl, hb1⟩; have hz1 := hb1.size; (try simp at hz1); have hc1 := fun (b o : Nat) (h : b < w.heap.size + 2) => hb1.cell (p := ⟨b, o, none⟩) (by first | omega | (simp; done) | (simp; omega)); have hf1 := fun (b o : Nat) (h : b < w.heap.size + 2) => hb1.frozen (p := ⟨b, o, none⟩) (by first | omega | (simp; done) | (simp; omega)); have hB1 : Below w.heap.size w w1 := Below.trans (by repeat' (first | (with_reducible exact Below.refl _ _) | (with_reducible assumption) | (with_reducible refine Below.setCell ?_ ?_ _) | (with_reducible refine Below.alloc ?_ ?_ _) | (with_reducible refine Below.drew ?_) | omega | (simp; done) | (simp; omega))) (hb1.mono (by first | omega | (simp; done) | (simp; omega))); (try have hy1 : w.heap.size < w1.heap.size := by omega); (try have hyb1 : w.heap.size + 1 < w1.heap.size := by omega); (try have hyc1 : w.heap.size + 1 + 1 < w1.heap.size := by omega); (try have hyd1 : w.heap.size + 1 + 1 + 1 < w1.heap.size := by omega)))
    refine bodyPost_ret (v := .tuple #[.agg #[.slice A ps.length c], .bool false]) (by simp [results, Try.results17, go_sem, hc1, hy1, hyb1]) rfl ?_
    exact ⟨_, rfl, by repeat' (first | (with_reducible exact Below.refl _ _) | (with_reducible assumption) | (with_reducible refine Below.setCell ?_ ?_ _) | (with_reducible refine Below.alloc ?_ ?_ _) | (with_reducible refine Below.drew ?_) | omega | (simp; done) | (simp; omega)), (HV.out.below (by repeat' (first | (with_reducible exact Below.refl _ _) | (with_reducible assumption) | (with_reducible refine Below.setCell ?_ ?_ _) | (with_reducible refine Below.alloc ?_ ?_ _) | (with_reducible refine Below.drew ?_) | omega | (simp; done) | (simp; omega))) (Nat.le_refl _)).wider (fun b h _ => .inl h.1)⟩
  | some i =>
    have hil : i < ps.length := by rw [List.findIdx?_eq_some_iff_getElem] at hi; exact hi.1
    rw [show delF ps n = (ps.eraseIdx i, true) by simp [delF, hi]]
    have HI := Lib.hid (atF_some hi)
    clear hi
    go_enter Try.func17, Try.ntmps17
    go_wp2_with (first
      | (go_at_call 23; go_must (refine (at_any _ ps n _ (HV.out.below (by repeat' (first | (with_reducible exact Below.refl _ _) | (with_reducible assumption) | (with_reducible refine Below.setCell ?_ ?_ _) | (with_reducible refine Below.alloc ?_ ?_ _) | (with_reducible refine Below.drew ?_) | omega | (simp; done) | (simp; omega))) (Nat.le_refl _))).mono ?_; rw [HI.out]; rintro e w1 ⟨rfl, hb1⟩; have hz1 := hb1.size; (try simp at hz1); have hc1 := fun (b o : Nat) (h : b < w.heap.size + 2) => hb1.cell (p := ⟨b, o, none⟩) (by first | omega | (simp; done) | (simp; omega)); have hf1 := fun (b o : Nat) (h : b < w.heap.size + 2) => hb1.frozen (p := ⟨b, o, none⟩) (by first | omega | (simp; done) | (simp; omega)); have hB1 : Below w.heap.size w w1 := Below.trans (by repeat' (first | (with_reducible exact Below.refl _ _) | (with_reducible assumption) | (with_reducible refine Below.setCell ?_ ?_ _) | (with_reducible refine Below.alloc ?_ ?_ _) | (with_reducible refine Below.drew ?_) | omega | (simp; done) | (simp; omega))) (hb1.mono (by first | omega | (simp; done) | (simp; omega))); (try have hy1 : w.heap.size < w1.heap.size := by omega); (try have hyb1 : w.heap.size + 1 < w1.heap.size := by omega); (try have hyc1 : w.heap.size + 1 + 1 < w1.heap.size := by omega); (try have hyd1 : w.heap.size + 1 + 1 + 1 < w1.heap.size := by omega)))
      | (go_at_call 31; go_must (refine (without_any _ ps i _ (HV.out.below (by repeat' (first | (with_reducible exact Below.refl _ _) | (with_reducible assumption) | (with_reducible refine Below.setCell ?_ ?_ _) | (with_reducible refine Below.alloc ?_ ?_ _) | (with_reducible refine Below.drew ?_) | omega | (simp; done) | (simp; omega))) (Nat.le_refl _)) hil hl).mono ?_; rintro e w2 ⟨v2, rfl, hb2, hp2⟩; have hz2 := hb2.size; (try simp at hz2); have hc2 := fun (b o : Nat) (h : b < w.heap.size + 2) => hb2.cell (p := ⟨b, o, none⟩) (by first | omega | (simp; done) | (simp; omega)); have hf2 := fun (b o : Nat) (h : b < w.heap.size + 2) => hb2.frozen (p := ⟨b, o, none⟩) (by first | omega | (simp; done) | (simp; omega)); have hB2 : Below w.heap.size w w2 := Below.trans (by repeat' (first | (with_reducible exact Below.refl _ _) | (with_reducible assumption) | (with_reducible refine Below.setCell ?_ ?_ _) | (with_reducible refine Below.alloc ?_ ?_ _) | (with_reducible refine Below.drew ?_) | omega | (simp; done) | (simp; omega))) (hb2.mono (by first | omega | (simp; done) | (simp; omega))); (try have hy2 : w.heap.size < w2.heap.size := by omega); (try have hyb2 : w.heap.size + 1 < w2.heap.size := by omega); (try have hyc2 : w.heap.size + 1 + 1 < w2.heap.size := by omega); (try have hyd2 : w.heap.size + 1 + 1 + 1 < w2.heap.size := by omega); obtain ⟨A2, c2, rfl, _⟩ := SlOf.shape hp2; have HP2 := Lib.hid hp2; clear hp2)))
    refine bodyPost_ret (v := .tuple #[.agg #[.slice A2 (ps.eraseIdx i).length c2], .bool true]) (by simp [results, Try.results17, go_sem, hc2, hc1, hy1, hyb1]) rfl ?_
    exact ⟨_, rfl, by repeat' (first | (with_reducible exact Below.refl _ _) | (with_reducible assumption) | (with_reducible refine Below.setCell ?_ ?_ _) | (with_reducible refine Below.alloc ?_ ?_ _) | (with_reducible refine Below.drew ?_) | omega | (simp; done) | (simp; omega)), (HP2.out.agree (Agree.setCell _ (fun h => h.elim (fun h => absurd h.2 (by first | omega | (simp; done) | (simp; omega))) (fun h => absurd h (by first | omega | (simp; done) | (simp; omega)))))).wider (fun b h _ => h.elim (fun h => Or.inl h.1) (fun h => Or.inr (Nat.le_trans (by first | omega | (simp; done) | (simp; omega)) h)))⟩
end Go.Proofs.Ytlnpelohdamklaa
