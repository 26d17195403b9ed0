import Derived.Test.YtlnpelohdamklaaProp17
import Derived.Test.YtlnpelohdamklaaJoin
import Derived.Outline
namespace Go.Proofs.Ytlnpelohdamklaa
open Go.RowKit
set_option linter.unusedVariables false
set_option linter.unusedSimpArgs false
/-- What a change makes of small lists. -/
def aw1 : List PR := [⟨1, 5, 8, [1, 2]⟩]
def aw2 : List PR := [⟨1, 5, 8, [0, 1, 2]⟩]
def aw3 : List PR := [⟨1, 5, 8, [0, 1, 2, 3]⟩]
theorem aw_c1 : changeF [] 0 ⟨1, 5, 8, [1, 2]⟩ = (aw1, 0) := rfl
theorem aw_c2 : changeF aw1 1 ⟨1, 5, 8, [0]⟩ = (aw2, 0) := rfl
theorem aw_c3 : changeF aw2 2 ⟨1, 5, 8, [3]⟩ = (aw3, 0) := rfl
theorem aw_g : getF aw3 1 0 1 2 false = (aw3, ⟨5, 8, 1, [1, 2]⟩, true, 0) := rfl
theorem Ints.lit {F : Foot} (w : World) (cs : List Int) (e : TypeId) (H : Nat) (hH : w.heap.size = H) (hF : F H) (n : Nat) (hn : n = cs.length) (hs : n ≤ 1000) : Ints F (w.alloc (.cells (cs.map (Value.int .i64)).toArray e)) .i64 (.slice (some ⟨H, 0, none⟩) n n) cs := by
  subst hn
  have := Sl.new_at (F := F) w (cs.map (Value.int .i64)).toArray e 1 cs.length H hH (by simp) (by unfold maxLen; omega) hF
  simpa [Ints] using this
set_option maxRecDepth 100000 in
set_option maxHeartbeats 2000000 in
theorem awake_any (w : World) : Calls Try.prog 9 #[] w fun e w' => e = .returned (.bool true) ∧ Below w.heap.size w w' := by
  go_enter Try.func9, Try.ntmps9
  go_wp2_with fail
  refine (change_any (F := fun _ => False) (G := fun _ => True) _ [] 0 ⟨1, 5, 8, [1, 2]⟩ _ _ SlOf.nil_ (by simp [PR.ok]) (Ints.lit (w.alloc _) [1, 2] 2 (w.heap.size + 1) (by simp) trivial 2 rfl (by omega)) (by simp) (by simp) (by simp)).mono ?_
  rw [aw_c1]
  rintro e w1 ⟨v1, rfl, hb1, hp1⟩
  have hz1 := hb1.size; (try simp at hz1); have hc1 := fun (b o : Nat) (h : b < w.heap.size + 1) => hb1.cell (p := ⟨b, o, none⟩) (by first | omega | (simp; done) | (simp; omega)); have hf1 := fun (b o : Nat) (h : b < w.heap.size + 1) => hb1.frozen (p := ⟨b, o, none⟩) (by first | omega | (simp; done) | (simp; omega)); have hB1 : Below w.heap.size w w1 := Below.trans (by repeat' (first | (with_reducible exact Below.refl _ _) | (with_reducible assumption) | (with_reducible refine Below.setCell ?_ ?_ _) | (with_reducible refine Below.alloc ?_ ?_ _) | (with_reducible refine Below.drew ?_) | omega | (simp; done) | (simp; omega))) (hb1.mono (by first | omega | (simp; done) | (simp; omega))); (try have hy1 : w.heap.size < w1.heap.size := by omega); (try have hyb1 : w.heap.size + 1 < w1.heap.size := by omega); (try have hyc1 : w.heap.size + 1 + 1 < w1.heap.size := by omega); (try have hyd1 : w.heap.size + 1 + 1 + 1 < w1.heap.size := by omega)
  have q1 : w1.cell? ⟨w.heap.size, 0, none⟩ = some (.slice none 0 0) := by go_simp
  clear hc1
  obtain ⟨A1, k1, rfl, _⟩ := SlOf.shape hp1
  have HP1 := Lib.hid (Props.wider (G := fun b => w.heap.size < b) hp1 (fun b h _ => h.elim (fun h => h.elim) (fun h => by (try simp at h); omega)))
  clear hp1
  go_wp2_with fail
  refine (change_any (F := fun b => w.heap.size < b) (G := fun _ => True) _ aw1 1 ⟨1, 5, 8, [0]⟩ _ _ (Props.below (Props.agree HP1.out (Agree.setCell (a := ⟨w.heap.size, 0, none⟩) _ (by simp))) ((Below.refl _ _).alloc (Nat.le_refl _) _) (Nat.le_refl _)) (by simp [PR.ok]) (Ints.lit (w1.setCell _ _) [0] 2 w1.heap.size (by simp) trivial 1 rfl (by omega)) (by simp) (by simp [aw1]) (by simp [aw1])).mono ?_
  rw [aw_c2]
  rintro e w2 ⟨v2, rfl, hb2, hp2⟩
  have hz2 := hb2.size; (try simp at hz2); have hc2 := fun (b o : Nat) (h : b < w.heap.size + 1) => hb2.cell (p := ⟨b, o, none⟩) (by first | omega | (simp; done) | (simp; omega)); have hf2 := fun (b o : Nat) (h : b < w.heap.size + 1) => hb2.frozen (p := ⟨b, o, none⟩) (by first | omega | (simp; done) | (simp; omega)); have hB2 : Below w.heap.size w w2 := Below.trans (by repeat' (first | (with_reducible exact Below.refl _ _) | (with_reducible assumption) | (with_reducible refine Below.setCell ?_ ?_ _) | (with_reducible refine Below.alloc ?_ ?_ _) | (with_reducible refine Below.drew ?_) | omega | (simp; done) | (simp; omega))) (hb2.mono (by first | omega | (simp; done) | (simp; omega))); (try have hy2 : w.heap.size < w2.heap.size := by omega); (try have hyb2 : w.heap.size + 1 < w2.heap.size := by omega); (try have hyc2 : w.heap.size + 1 + 1 < w2.heap.size := by omega); (try have hyd2 : w.heap.size + 1 + 1 + 1 < w2.heap.size := by omega)
  have q2 : w2.cell? ⟨w.heap.size, 0, none⟩ = some (.slice A1 aw1.length k1) := by go_simp
  clear hc2
  obtain ⟨A2, k2, rfl, _⟩ := SlOf.shape hp2
  have HP2 := Lib.hid (Props.wider (G := fun b => w.heap.size < b) hp2 (fun b h _ => h.elim (fun h => h) (fun h => by (try simp at h); omega)))
  clear hp2
  go_wp2_with fail
  refine (change_any (F := fun b => w.heap.size < b) (G := fun _ => True) _ aw2 2 ⟨1, 5, 8, [3]⟩ _ _ (Props.below (Props.agree HP2.out (Agree.setCell (a := ⟨w.heap.size, 0, none⟩) _ (by simp))) ((Below.refl _ _).alloc (Nat.le_refl _) _) (Nat.le_refl _)) (by simp [PR.ok]) (Ints.lit (w2.setCell _ _) [3] 2 w2.heap.size (by simp) trivial 1 rfl (by omega)) (by simp) (by simp [aw2]) (by simp [aw2])).mono ?_
  rw [aw_c3]
  rintro e w3 ⟨v3, rfl, hb3, hp3⟩
  have hz3 := hb3.size; (try simp at hz3); have hc3 := fun (b o : Nat) (h : b < w.heap.size + 1) => hb3.cell (p := ⟨b, o, none⟩) (by first | omega | (simp; done) | (simp; omega)); have hf3 := fun (b o : Nat) (h : b < w.heap.size + 1) => hb3.frozen (p := ⟨b, o, none⟩) (by first | omega | (simp; done) | (simp; omega)); have hB3 : Below w.heap.size w w3 := Below.trans (by repeat' (first | (with_reducible exact Below.refl _ _) | (with_reducible assumption) | (with_reducible refine Below.setCell ?_ ?_ _) | (with_reducible refine Below.alloc ?_ ?_ _) | (with_reducible refine Below.drew ?_) | omega | (simp; done) | (simp; omega))) (hb3.mono (by first | omega | (simp; done) | (simp; omega))); (try have hy3 : w.heap.size < w3.heap.size := by omega); (try have hyb3 : w.heap.size + 1 < w3.heap.size := by omega); (try have hyc3 : w.heap.size + 1 + 1 < w3.heap.size := by omega); (try have hyd3 : w.heap.size + 1 + 1 + 1 < w3.heap.size := by omega)
  have q3 : w3.cell? ⟨w.heap.size, 0, none⟩ = some (.slice A2 aw2.length k2) := by go_simp
  clear hc3
  obtain ⟨A3, k3, rfl, _⟩ := SlOf.shape hp3
  have HP3 := Lib.hid (Props.wider (G := fun b => w.heap.size < b) hp3 (fun b h _ => h.elim (fun h => h) (fun h => by (try simp at h); omega)))
  clear hp3
  go_wp2_with fail
  refine (get_any0 (F := fun b => w.heap.size < b) _ aw3 1 0 1 2 _ (Props.agree HP3.out (Agree.setCell (a := ⟨w.heap.size, 0, none⟩) _ (by simp))) (by omega) (by omega) (by simp [aw3])).mono ?_
  rw [aw_g]
  rintro e w4 ⟨v4, dv4, rfl, hb4, hp4, hd4⟩
  have hz4 := hb4.size; (try simp at hz4); have hc4 := fun (b o : Nat) (h : b < w.heap.size + 1) => hb4.cell (p := ⟨b, o, none⟩) (by first | omega | (simp; done) | (simp; omega)); have hf4 := fun (b o : Nat) (h : b < w.heap.size + 1) => hb4.frozen (p := ⟨b, o, none⟩) (by first | omega | (simp; done) | (simp; omega)); have hB4 : Below w.heap.size w w4 := Below.trans (by repeat' (first | (with_reducible exact Below.refl _ _) | (with_reducible assumption) | (with_reducible refine Below.setCell ?_ ?_ _) | (with_reducible refine Below.alloc ?_ ?_ _) | (with_reducible refine Below.drew ?_) | omega | (simp; done) | (simp; omega))) (hb4.mono (by first | omega | (simp; done) | (simp; omega))); (try have hy4 : w.heap.size < w4.heap.size := by omega); (try have hyb4 : w.heap.size + 1 < w4.heap.size := by omega); (try have hyc4 : w.heap.size + 1 + 1 < w4.heap.size := by omega); (try have hyd4 : w.heap.size + 1 + 1 + 1 < w4.heap.size := by omega)
  have q4 : w4.cell? ⟨w.heap.size, 0, none⟩ = some (.slice A3 aw3.length k3) := by go_simp
  clear hc4
  obtain ⟨A4, k4, rfl, _⟩ := SlOf.shape hp4
  have HD4 := Lib.hid hd4
  obtain ⟨D4, dc4, rfl, _⟩ := hd4.shape
  clear hp4 hd4
  simp only [FD.val]
  go_wp2_with fail
  refine (same_any (F := fun b => True) (G := fun _ => True) _ _ _ [1, 2] [1, 2] (Ints.mono (F := fun b => _ ≤ b) (Ints.below HD4.out (by repeat' (first | (with_reducible exact Below.refl _ _) | (with_reducible assumption) | (with_reducible refine Below.setCell ?_ ?_ _) | (with_reducible refine Below.alloc ?_ ?_ _) | (with_reducible refine Below.drew ?_) | omega | (simp; done) | (simp; omega))) (Nat.le_refl _)) (fun _ _ _ => trivial)) (Ints.lit ((w4.alloc _).alloc _) [1, 2] 2 (w4.heap.size + 1 + 1) (by simp) trivial 2 rfl (by omega))).mono ?_
  rintro e w5 ⟨rfl, nd, rfl⟩
  go_wp2
  go_ret
  exact ⟨rfl, by
    refine Below.trans (b := w4) hB4 (Below.trans (b := ((w4.alloc (.cells #[.slice A4 aw3.length k4] 26)).alloc (.cells #[.int .u32 5, .int .i64 8, .int .i64 1, .slice D4 2 dc4] 50)).alloc (.cells #[.int .i64 1, .int .i64 2] 2)) (by repeat' (first | (with_reducible exact Below.refl _ _) | (with_reducible assumption) | (with_reducible refine Below.setCell ?_ ?_ _) | (with_reducible refine Below.alloc ?_ ?_ _) | (with_reducible refine Below.drew ?_) | omega | (simp; done) | (simp; omega))) ⟨rfl, rfl, rfl, Nat.le_refl _, fun _ _ => rfl⟩)⟩
end Go.Proofs.Ytlnpelohdamklaa
