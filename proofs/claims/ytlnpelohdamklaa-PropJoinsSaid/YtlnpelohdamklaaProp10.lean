import Derived.Test.YtlnpelohdamklaaProp9
import Derived.Outline
namespace Go.Proofs.Ytlnpelohdamklaa
open Go.RowKit
set_option linter.unusedVariables false
set_option linter.unusedSimpArgs false

theorem change_any {F G : Foot} (v : Value) (ps : List PR) (mode : Int) (p : PR) (dv : Value) (w : World) (hv : Props F w v ps) (hp : p.ok) (hd : Ints G w .i64 dv p.data) (hl : p.data.length ≤ 100000) (hps : ps.length ≤ 100000)
    (hall : ∀ q ∈ ps, q.data.length ≤ 100000) :
    Calls Try.prog 10 #[.agg #[v], .int .i64 mode, p.val dv] w (ChangePost F w (changeF ps mode p)) := by
  by_cases hm : mode ≠ 0 ∧ mode ≠ 1 ∧ mode ≠ 2
  · have : changeF ps mode p = (ps, 10) := by simp [changeF, hm]
    rw [this]
    exact change_kind v ps mode p dv w hv hm
  have hm' : mode = 0 ∨ mode = 1 ∨ mode = 2 := by omega
  by_cases hc : chkF p = 0
  rotate_left
  · have : changeF ps mode p = (ps, chkF p) := by unfold changeF; rw [if_neg hm, if_pos hc]
    rw [this]
    exact change_bad v ps mode p dv w hv hm' hp hd hc
  cases hi : ps.findIdx? (fun q => q.name == p.name) with
  | none =>
    by_cases h64 : 64 ≤ ps.length
    · have : changeF ps mode p = (ps, 12) := by unfold changeF; rw [if_neg hm, if_neg (by simp [hc]), hi]; simp [h64]
      rw [this]
      exact change_full v ps mode p dv w hv hm' hp hd hc hi h64
    · have : changeF ps mode p = (ps ++ [p], 0) := by unfold changeF; rw [if_neg hm, if_neg (by simp [hc]), hi]; simp [h64]
      rw [this]
      exact change_new v ps mode p dv w hv hm' hp hd hc hi h64 hl
  | some i =>
    have hil : i < ps.length := by rw [List.findIdx?_eq_some_iff_getElem] at hi; exact hi.1
    have ho : ps[i]? = some ps[i] := List.getElem?_eq_getElem hil
    have e0 : changeF ps mode p = if mode ≠ 0 ∧ (ps[i].typ ≠ p.typ ∨ ps[i].fmt ≠ p.fmt) then (ps, 14) else if mode ≠ 0 ∧ 16384 < ps[i].data.length + p.data.length then (ps, 4)
        else (ps.set i { p with data := newData mode ps[i] p }, 0) := by
      unfold changeF; rw [if_neg hm, if_neg (by simp [hc]), hi]; simp only [ho]
    rw [e0]
    by_cases h0 : mode = 0
    · subst h0
      rw [if_neg (by simp), if_neg (by simp)]
      exact change_set0 v ps p ps[i] dv w i hv hp hd hc hi ho hl hps
    by_cases hne : ps[i].typ ≠ p.typ ∨ ps[i].fmt ≠ p.fmt
    · rw [if_pos ⟨h0, hne⟩]
      exact change_mis v ps mode p ps[i] dv w i hv (by omega) hp hd hc hi ho hne
    rw [if_neg (by simp [hne])]
    have ht : ps[i].typ = p.typ := by simpa using fun h => hne (.inl h)
    have hf : ps[i].fmt = p.fmt := by simpa using fun h => hne (.inr h)
    by_cases hlong : 16384 < ps[i].data.length + p.data.length
    · rw [if_pos ⟨h0, hlong⟩]
      exact change_long v ps mode p ps[i] dv w i hv (by omega) hp hd hc hi ho ht hf hlong (hall _ (List.getElem_mem hil)) hl
    rw [if_neg (by simp [hlong])]
    rcases (show mode = 1 ∨ mode = 2 by omega) with rfl | rfl
    · exact change_set1 v ps p ps[i] dv w i hv hp hd hc hi ho hl hps ht hf hlong
    · exact change_set2 v ps p ps[i] dv w i hv hp hd hc hi ho hl hps ht hf hlong

def noPR : PR := ⟨0, 0, 0, []⟩
def findF (ps : List PR) (n : Int) : PR × Bool := match ps.find? (fun q => q.name == n) with | some p => (p, true) | none => (noPR, false)
theorem findF_none {ps : List PR} {n : Int} (h : ps.findIdx? (fun q => q.name == n) = none) : findF ps n = (noPR, false) := by
  have : ps.find? (fun q => q.name == n) = none := by
    rw [List.find?_eq_none]; rw [List.findIdx?_eq_none_iff] at h
    intro x hx; rw [h x hx]; simp
  simp [findF, this]
theorem findF_some {ps : List PR} {n : Int} {i : Nat} {p : PR} (h : ps.findIdx? (fun q => q.name == n) = some i) (hp : ps[i]? = some p) : findF ps n = (p, true) := by
  have : ps.find? (fun q => q.name == n) = some p := by
    rw [List.findIdx?_eq_some_iff_getElem] at h
    obtain ⟨hi, h1, h2⟩ := h
    rw [List.find?_eq_some_iff_getElem]
    have e : ps[i] = p := (List.getElem?_eq_some_iff.1 hp).2
    refine ⟨by rw [← e]; exact h1, i, hi, e, fun j hj => ?_⟩
    have := h2 j hj
    simpa using this
  simp [findF, this]
def FindPost (w : World) (r : PR × Bool) (e : Ending) (w' : World) : Prop :=
  ∃ dv, e = .returned (.tuple #[r.1.val dv, .bool r.2]) ∧ Below w.heap.size w w' ∧ Ints (fun b => w.heap.size ≤ b) w' .i64 dv r.1.data

set_option maxRecDepth 100000 in
set_option maxHeartbeats 1000000 in
theorem find_any {F : Foot} (v : Value) (ps : List PR) (n : Int) (w : World) (hv : Props F w v ps) (hall : ∀ q ∈ ps, q.data.length ≤ 100000) :
    Calls Try.prog 12 #[.agg #[v], .int .u32 n] w (FindPost w (findF ps n)) := by
  cases hi : ps.findIdx? (fun q => q.name == n) with
  | none =>
    rw [findF_none hi]
    obtain ⟨A, c, rfl, k1, k2⟩ := SlOf.shape hv
    have HV := Lib.hid hv
    have HI := Lib.hid (atF_none hi)
    clear hv hi hall
    go_enter Try.func12, Try.ntmps12
    go_wp2_with (go_at_call 23; go_must (refine (at_any _ ps n _ (HV.out.below (by repeat' (first | (with_reducible exact Below.refl _ _) | (with_reducible assumption) | (with_reducible refine Below.setCell ?_ ?_ _) | (with_reducible refine Below.alloc ?_ ?_ _) | (with_reducible refine Below.drew ?_) | omega | (simp; done) | (simp; omega))) (Nat.le_refl _))).mono ?_; rw [HI.out]; rintro e w1 ⟨rfl, hb1⟩; have hz1 := hb1.size; (try simp at hz1); have hc1 := fun (b o : Nat) (h : b < w.heap.size + 2) => hb1.cell (p := ⟨b, o, none⟩) (by first | omega | (simp; done) | (simp; omega)); have hf1 := fun (b o : Nat) (h : b < w.heap.size + 2) => hb1.frozen (p := ⟨b, o, none⟩) (by first | omega | (simp; done) | (simp; omega)); have hB1 : Below w.heap.size w w1 := Below.trans (by repeat' (first | (with_reducible exact Below.refl _ _) | (with_reducible assumption) | (with_reducible refine Below.setCell ?_ ?_ _) | (with_reducible refine Below.alloc ?_ ?_ _) | (with_reducible refine Below.drew ?_) | omega | (simp; done) | (simp; omega))) (hb1.mono (by first | omega | (simp; done) | (simp; omega))); (try have hy1 : w.heap.size < w1.heap.size := by omega); (try have hyb1 : w.heap.size + 1 < w1.heap.size := by omega); (try have hyc1 : w.heap.size + 1 + 1 < w1.heap.size := by omega); (try have hyd1 : w.heap.size + 1 + 1 + 1 < w1.heap.size := by omega)))
    refine bodyPost_ret (v := .tuple #[.agg #[.int .u32 0, .int .u32 0, .int .i64 0, .slice none 0 0], .bool false]) (by simp [results, Try.results12, go_sem, hc1, hy1, hyb1]) rfl ?_
    exact ⟨.slice none 0 0, rfl, by repeat' (first | (with_reducible exact Below.refl _ _) | (with_reducible assumption) | (with_reducible refine Below.setCell ?_ ?_ _) | (with_reducible refine Below.alloc ?_ ?_ _) | (with_reducible refine Below.drew ?_) | omega | (simp; done) | (simp; omega)), Ints.zero_⟩
  | some i =>
    have hil : i < ps.length := by rw [List.findIdx?_eq_some_iff_getElem] at hi; exact hi.1
    obtain ⟨A, c, rfl, k1, k2, _, k4⟩ := Props.open_ hv
    obtain ⟨bk, off, nm', ty', fm', data', dv', rfl, hbk, hok', hdv', HX, c0, c1, c2, c3⟩ := k4 i hil
    have hdl : data'.length ≤ 100000 := hall _ (mem_of_at HX)
    rw [findF_some hi HX.out]
    obtain ⟨E, ec, rfl, _⟩ := hdv'.shape
    have HV := Lib.hid hv
    have HE := Lib.hid hdv'
    have HI := Lib.hid (atF_some hi)
    have hil' : (i : Int) < (ps.length : Int) := by omega
    clear hv hi k4 hdv' hall
    go_enter Try.func12, Try.ntmps12
    go_wp2_with (first
      | (go_at_call 23; go_must (refine (at_any _ ps n _ (HV.out.below (by repeat' (first | (with_reducible exact Below.refl _ _) | (with_reducible assumption) | (with_reducible refine Below.setCell ?_ ?_ _) | (with_reducible refine Below.alloc ?_ ?_ _) | (with_reducible refine Below.drew ?_) | omega | (simp; done) | (simp; omega))) (Nat.le_refl _))).mono ?_; rw [HI.out]; rintro e w2 ⟨rfl, hb2⟩; have hz2 := hb2.size; (try simp at hz2); have hc2 := fun (b o : Nat) (h : b < w.heap.size + 2) => hb2.cell (p := ⟨b, o, none⟩) (by first | omega | (simp; done) | (simp; omega)); have hf2 := fun (b o : Nat) (h : b < w.heap.size + 2) => hb2.frozen (p := ⟨b, o, none⟩) (by first | omega | (simp; done) | (simp; omega)); have hB2 : Below w.heap.size w w2 := Below.trans (by repeat' (first | (with_reducible exact Below.refl _ _) | (with_reducible assumption) | (with_reducible refine Below.setCell ?_ ?_ _) | (with_reducible refine Below.alloc ?_ ?_ _) | (with_reducible refine Below.drew ?_) | omega | (simp; done) | (simp; omega))) (hb2.mono (by first | omega | (simp; done) | (simp; omega))); (try have hy2 : w.heap.size < w2.heap.size := by omega); (try have hyb2 : w.heap.size + 1 < w2.heap.size := by omega); (try have hyc2 : w.heap.size + 1 + 1 < w2.heap.size := by omega); (try have hyd2 : w.heap.size + 1 + 1 + 1 < w2.heap.size := by omega); have d0 := (hB2.cell (p := ⟨bk, off + i * 4, none⟩) hbk).trans c0; have d1 := (hB2.cell (p := ⟨bk, off + i * 4 + 1, none⟩) hbk).trans c1; have d2 := (hB2.cell (p := ⟨bk, off + i * 4 + 2, none⟩) hbk).trans c2; have d3 := (hB2.cell (p := ⟨bk, off + i * 4 + 3, none⟩) hbk).trans c3))
      | (go_at_call 24; go_must (refine (join_any _ _ [] data' _ (Ints.zero_ (F := F)) (HE.out.below (by repeat' (first | (with_reducible exact Below.refl _ _) | (with_reducible assumption) | (with_reducible refine Below.setCell ?_ ?_ _) | (with_reducible refine Below.alloc ?_ ?_ _) | (with_reducible refine Below.drew ?_) | omega | (simp; done) | (simp; omega))) (Nat.le_refl _)) (by simp; omega)).mono ?_; rintro e w3 ⟨jv, rfl, hb3, hown3⟩; have hz3 := hb3.size; (try simp at hz3); have hc3 := fun (b o : Nat) (h : b < w.heap.size + 2) => hb3.cell (p := ⟨b, o, none⟩) (by first | omega | (simp; done) | (simp; omega)); have hf3 := fun (b o : Nat) (h : b < w.heap.size + 2) => hb3.frozen (p := ⟨b, o, none⟩) (by first | omega | (simp; done) | (simp; omega)); have hB3 : Below w.heap.size w w3 := Below.trans (by repeat' (first | (with_reducible exact Below.refl _ _) | (with_reducible assumption) | (with_reducible refine Below.setCell ?_ ?_ _) | (with_reducible refine Below.alloc ?_ ?_ _) | (with_reducible refine Below.drew ?_) | omega | (simp; done) | (simp; omega))) (hb3.mono (by first | omega | (simp; done) | (simp; omega))); (try have hy3 : w.heap.size < w3.heap.size := by omega); (try have hyb3 : w.heap.size + 1 < w3.heap.size := by omega); (try have hyc3 : w.heap.size + 1 + 1 < w3.heap.size := by omega); (try have hyd3 : w.heap.size + 1 + 1 + 1 < w3.heap.size := by omega); have hc3x := fun (b o : Nat) (h : b < w2.heap.size + 1) => hb3.cell (p := ⟨b, o, none⟩) (by first | omega | (simp; done) | (simp; omega)); have hf3x := fun (b o : Nat) (h : b < w2.heap.size + 1) => hb3.frozen (p := ⟨b, o, none⟩) (by first | omega | (simp; done) | (simp; omega)); simp only [List.nil_append, List.length_nil, Nat.zero_add, World.size_alloc] at hown3; have HJ := Lib.hid hown3; obtain ⟨J, jc, rfl, _⟩ := own_shape hown3; clear hown3)))
    have g1 : ¬ w2.heap.size = w.heap.size + 1 := by omega
    have g2 : ¬ w.heap.size + 1 = w2.heap.size := by omega
    have g3 : w2.heap.size < w3.heap.size := by omega
    refine bodyPost_ret (v := .tuple #[.agg #[.int .u32 nm', .int .u32 ty', .int .i64 fm', .slice J data'.length jc], .bool true]) (by simp [results, Try.results12, go_sem, g1, g2, g3, hc3, hc3x, hc2, hy3, hyb3, hyb2, hy2]) rfl ?_
    exact ⟨.slice J data'.length jc, rfl, by repeat' (first | (with_reducible exact Below.refl _ _) | (with_reducible assumption) | (with_reducible refine Below.setCell ?_ ?_ _) | (with_reducible refine Below.alloc ?_ ?_ _) | (with_reducible refine Below.drew ?_) | omega | (simp; done) | (simp; omega)), own_ints (base := w2.heap.size + 1) (e := 2) (n := data'.length) (by (repeat (first | (with_reducible exact HJ.out) | (with_reducible exact ho5) | (with_reducible refine ownsRow_setCell_below ?_ (by first | omega | (simp; done) | (simp; omega)) _) | (with_reducible refine World.ownsRow.alloc ?_ _) | (with_reducible refine own_drew ?_) | (with_reducible refine own_below ?_ hb4 (Nat.le_refl _)) | (with_reducible refine World.ownsRow.kept ?_ hg5 hne)))) rfl (fun b _ hb => by omega)⟩
end Go.Proofs.Ytlnpelohdamklaa
