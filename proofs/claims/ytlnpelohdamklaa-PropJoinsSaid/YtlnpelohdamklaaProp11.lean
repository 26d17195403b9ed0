import Derived.Test.YtlnpelohdamklaaProp10
import Derived.Outline
namespace Go.Proofs.Ytlnpelohdamklaa
open Go.RowKit
set_option linter.unusedVariables false
set_option linter.unusedSimpArgs false

set_option maxRecDepth 100000 in
set_option maxHeartbeats 1000000 in
theorem without_any {F : Foot} (v : Value) (ps : List PR) (i : Nat) (w : World) (hv : Props F w v ps) (hi : i < ps.length) (hl : ps.length ≤ 100000) :
    Calls Try.prog 31 #[.agg #[v], .int .i64 i] w fun e w' => ∃ v', e = .returned (.agg #[v']) ∧ Below w.heap.size w w' ∧ Props (up F w.heap.size) w' v' (ps.eraseIdx i) := by
  obtain ⟨css, k1, k2, k3⟩ := hv
  have hlen := rows_len k1 k2
  have hone := Sl.one PR.one k1 k2
  obtain ⟨bk, off, c, rfl, hc1, hc2, hbk, _, _⟩ := Sl.place k3 (by omega) (by omega)
  have HS := Lib.hid k3
  have H1 := Lib.hid (one_take hone (i * 4))
  have H2 := Lib.hid (one_drop hone ((i + 1) * 4))
  have HR := Lib.hid k2
  have HL := Lib.hid hlen
  have K1 := Lib.hid k1
  have hc2' : c ≤ 9223372036854775807 := by simpa [maxLen] using hc2
  have hi' : (i : Int) ≤ (ps.length : Int) := by omega
  have hi2 : (i : Int) + 1 ≤ (ps.length : Int) := by omega
  have hc0 : ¬ c = 0 := by omega
  clear k1 k2 k3 hlen hone hc2
  by_cases hci : c = i + 1
  · have hpl : ps.length = i + 1 := by omega
    have slz : ∀ W : World, Sl F W 4 (.slice (some ⟨bk, off, none⟩) 0 0) 0 (css.flatten.drop ((i + 1) * 4)) := by
      intro W
      have e2 : css.flatten.drop ((i + 1) * 4) = [] := List.drop_of_length_le (by rw [length_flatten_of HL.out, K1.out, hpl]; exact Nat.le_refl _)
      rw [e2]
      exact Sl.empty_ _ (Nat.zero_le _)
    have HPL := Lib.hid hpl
    clear hpl
    subst hci
    go_enter Try.func31, Try.ntmps31
    go_wp2_with (first
      | (at_make; refine wpL_make0 rfl (.const (.int .i64 0)) (.tmp 8) _ rfl sty_props _ ps.length rfl rfl rfl (by omega) (by unfold maxLen; omega) ?_; intro w1 ho1 hb1; have hz1 := hb1.size; (try simp at hz1); have hc1 := fun (b o : Nat) (h : b < w.heap.size + 2) => hb1.cell (p := ⟨b, o, none⟩) (by first | omega | (simp; done) | (simp; omega)); have hf1 := fun (b o : Nat) (h : b < w.heap.size + 2) => hb1.frozen (p := ⟨b, o, none⟩) (by first | omega | (simp; done) | (simp; omega)); have hB1 : Below w.heap.size w w1 := Below.trans (by repeat' (first | (with_reducible exact Below.refl _ _) | (with_reducible assumption) | (with_reducible refine Below.setCell ?_ ?_ _) | (with_reducible refine Below.alloc ?_ ?_ _) | (with_reducible refine Below.drew ?_) | omega | (simp; done) | (simp; omega))) (hb1.mono (by first | omega | (simp; done) | (simp; omega))); (try have hy1 : w.heap.size < w1.heap.size := by omega); (try have hyb1 : w.heap.size + 1 < w1.heap.size := by omega); (try have hyc1 : w.heap.size + 1 + 1 < w1.heap.size := by omega); (try have hyd1 : w.heap.size + 1 + 1 + 1 < w1.heap.size := by omega); simp only [World.size_alloc] at ho1)
      | (at_builtin; refine wpL_append (w := w1) rfl (.tmp 10) (.tmp 14) _ rfl sty_props _ (.slice (some ⟨w.heap.size + 1 + 1, 0, none⟩) 0 ps.length) 0 [] rfl ho1 (.slice (some ⟨bk, off, none⟩) i (i + 1)) i _ rfl ((HS.out.below hB1 (Nat.le_refl _)).take_mk (by omega)) H1.out (by unfold maxLen; omega) (by omega) (by first | omega | (simp; done) | (simp; omega)) ?_; intro v2 w2 ho2 hg2 hat2; have hb2 := Below.grown (B := w.heap.size + 2) (Below.refl _ _) hg2 (by first | omega | (simp; done) | (simp; omega)) (fun k hk => by have := (ho1.lt k hk).1; (try simp at this); omega); have hz2 := hg2.size; (try simp at hz2); have hc2 := fun (b o : Nat) (h : b < w.heap.size + 2) => hb2.cell (p := ⟨b, o, none⟩) h; have hf2 := fun (b o : Nat) (h : b < w.heap.size + 2) => hb2.frozen (p := ⟨b, o, none⟩) h; have hB2 : Below w.heap.size w w2 := Below.trans (by repeat' (first | (with_reducible exact Below.refl _ _) | (with_reducible assumption) | (with_reducible refine Below.setCell ?_ ?_ _) | (with_reducible refine Below.alloc ?_ ?_ _) | (with_reducible refine Below.drew ?_) | omega | (simp; done) | (simp; omega))) (hb2.mono (by first | omega | (simp; done) | (simp; omega))); simp only [Nat.zero_add, List.nil_append] at ho2)
      | (at_builtin; refine wpL_append (w := w2) rfl (.tmp 16) (.tmp 21) _ rfl sty_props _ v2 i _ rfl ho2 (.slice (some ⟨bk, off, none⟩) 0 0) 0 _ rfl (slz _) H2.out (by unfold maxLen; omega) (by omega) (by first | omega | (simp; done) | (simp; omega)) ?_; intro v3 w3 ho3 hg3 hat3; have hb3 := Below.grown (B := w.heap.size + 2) (Below.refl _ _) hg3 (by first | omega | (simp; done) | (simp; omega)) (fun k hk => by have := (ho2.lt k hk).1; (try simp at this); omega); have hz3 := hg3.size; (try simp at hz3); have hc3 := fun (b o : Nat) (h : b < w.heap.size + 2) => hb3.cell (p := ⟨b, o, none⟩) h; have hf3 := fun (b o : Nat) (h : b < w.heap.size + 2) => hb3.frozen (p := ⟨b, o, none⟩) h; have hB3 : Below w.heap.size w w3 := Below.trans (by repeat' (first | (with_reducible exact Below.refl _ _) | (with_reducible assumption) | (with_reducible refine Below.setCell ?_ ?_ _) | (with_reducible refine Below.alloc ?_ ?_ _) | (with_reducible refine Below.drew ?_) | omega | (simp; done) | (simp; omega))) (hb3.mono (by first | omega | (simp; done) | (simp; omega))); simp only [Nat.add_zero] at ho3; obtain ⟨V3, vc3, rfl, _⟩ := own_shape ho3))
    refine bodyPost_ret (v := .agg #[.slice V3 i vc3]) (by simp [results, Try.results31, go_sem, hc3, hc2, hc1]) rfl ?_
    refine ⟨_, rfl, by repeat' (first | (with_reducible exact Below.refl _ _) | (with_reducible assumption) | (with_reducible refine Below.setCell ?_ ?_ _) | (with_reducible refine Below.alloc ?_ ?_ _) | (with_reducible refine Below.drew ?_) | omega | (simp; done) | (simp; omega)), css.eraseIdx i, ?_, rows_erase (P := fun cs x => cs.length = 4 ∧ PR.row _ _ cs x) (rows_later PR.mono PR.monoF HR.out (.of_below (B := w.heap.size) (by repeat' (first | (with_reducible exact Below.refl _ _) | (with_reducible assumption) | (with_reducible refine Below.setCell ?_ ?_ _) | (with_reducible refine Below.alloc ?_ ?_ _) | (with_reducible refine Below.drew ?_) | omega | (simp; done) | (simp; omega))) (Nat.le_refl _)) (fun b h _ => .inl h)), ?_⟩
    · rw [List.length_eraseIdx, List.length_eraseIdx, K1.out]
    · have h5 := own_setCell_ne ho3 (a := ⟨w.heap.size + 1, 0, none⟩) (.slice V3 i vc3) (fun h => by have := (ho3.lt _ h).1; (try simp at this); omega)
      have h6 := Sl.of_own (F := up F w.heap.size) h5 (fun b hb _ => .inr (by have := (ho3.lt _ hb).1; (try simp at this); omega))
      rw [flatten_take HL.out, flatten_drop HL.out, ← List.flatten_append, ← List.eraseIdx_eq_take_drop_succ] at h6
      have e1 : (ps.eraseIdx i).length = i := by have := HPL.out; rw [List.length_eraseIdx, if_pos hi]; omega
      rw [e1]
      exact h6
  · go_enter Try.func31, Try.ntmps31
    go_wp2_with (first
      | (at_make; refine wpL_make0 rfl (.const (.int .i64 0)) (.tmp 8) _ rfl sty_props _ ps.length rfl rfl rfl (by omega) (by unfold maxLen; omega) ?_; intro w1 ho1 hb1; have hz1 := hb1.size; (try simp at hz1); have hc1 := fun (b o : Nat) (h : b < w.heap.size + 2) => hb1.cell (p := ⟨b, o, none⟩) (by first | omega | (simp; done) | (simp; omega)); have hf1 := fun (b o : Nat) (h : b < w.heap.size + 2) => hb1.frozen (p := ⟨b, o, none⟩) (by first | omega | (simp; done) | (simp; omega)); have hB1 : Below w.heap.size w w1 := Below.trans (by repeat' (first | (with_reducible exact Below.refl _ _) | (with_reducible assumption) | (with_reducible refine Below.setCell ?_ ?_ _) | (with_reducible refine Below.alloc ?_ ?_ _) | (with_reducible refine Below.drew ?_) | omega | (simp; done) | (simp; omega))) (hb1.mono (by first | omega | (simp; done) | (simp; omega))); (try have hy1 : w.heap.size < w1.heap.size := by omega); (try have hyb1 : w.heap.size + 1 < w1.heap.size := by omega); (try have hyc1 : w.heap.size + 1 + 1 < w1.heap.size := by omega); (try have hyd1 : w.heap.size + 1 + 1 + 1 < w1.heap.size := by omega); simp only [World.size_alloc] at ho1)
      | (at_builtin; refine wpL_append (w := w1) rfl (.tmp 10) (.tmp 14) _ rfl sty_props _ (.slice (some ⟨w.heap.size + 1 + 1, 0, none⟩) 0 ps.length) 0 [] rfl ho1 (.slice (some ⟨bk, off, none⟩) i c) i _ rfl ((HS.out.below hB1 (Nat.le_refl _)).take_mk (by omega)) H1.out (by unfold maxLen; omega) (by omega) (by first | omega | (simp; done) | (simp; omega)) ?_; intro v2 w2 ho2 hg2 hat2; have hb2 := Below.grown (B := w.heap.size + 2) (Below.refl _ _) hg2 (by first | omega | (simp; done) | (simp; omega)) (fun k hk => by have := (ho1.lt k hk).1; (try simp at this); omega); have hz2 := hg2.size; (try simp at hz2); have hc2 := fun (b o : Nat) (h : b < w.heap.size + 2) => hb2.cell (p := ⟨b, o, none⟩) h; have hf2 := fun (b o : Nat) (h : b < w.heap.size + 2) => hb2.frozen (p := ⟨b, o, none⟩) h; have hB2 : Below w.heap.size w w2 := Below.trans (by repeat' (first | (with_reducible exact Below.refl _ _) | (with_reducible assumption) | (with_reducible refine Below.setCell ?_ ?_ _) | (with_reducible refine Below.alloc ?_ ?_ _) | (with_reducible refine Below.drew ?_) | omega | (simp; done) | (simp; omega))) (hb2.mono (by first | omega | (simp; done) | (simp; omega))); simp only [Nat.zero_add, List.nil_append] at ho2)
      | (at_builtin; refine wpL_append (w := w2) rfl (.tmp 16) (.tmp 21) _ rfl sty_props _ v2 i _ rfl ho2 (.slice (some ⟨bk, off + (i + 1) * 4, none⟩) (ps.length - (i + 1)) (c - (i + 1))) (ps.length - (i + 1)) _ rfl ((HS.out.below hB2 (Nat.le_refl _)).drop_mk (by omega)) H2.out (by unfold maxLen; omega) (by omega) (by first | omega | (simp; done) | (simp; omega)) ?_; intro v3 w3 ho3 hg3 hat3; have hb3 := Below.grown (B := w.heap.size + 2) (Below.refl _ _) hg3 (by first | omega | (simp; done) | (simp; omega)) (fun k hk => by have := (ho2.lt k hk).1; (try simp at this); omega); have hz3 := hg3.size; (try simp at hz3); have hc3 := fun (b o : Nat) (h : b < w.heap.size + 2) => hb3.cell (p := ⟨b, o, none⟩) h; have hf3 := fun (b o : Nat) (h : b < w.heap.size + 2) => hb3.frozen (p := ⟨b, o, none⟩) h; have hB3 : Below w.heap.size w w3 := Below.trans (by repeat' (first | (with_reducible exact Below.refl _ _) | (with_reducible assumption) | (with_reducible refine Below.setCell ?_ ?_ _) | (with_reducible refine Below.alloc ?_ ?_ _) | (with_reducible refine Below.drew ?_) | omega | (simp; done) | (simp; omega))) (hb3.mono (by first | omega | (simp; done) | (simp; omega))); obtain ⟨V3, vc3, rfl, _⟩ := own_shape ho3))
    refine bodyPost_ret (v := .agg #[.slice V3 (i + (ps.length - (i + 1))) vc3]) (by simp [results, Try.results31, go_sem, hc3, hc2, hc1]) rfl ?_
    refine ⟨_, rfl, by repeat' (first | (with_reducible exact Below.refl _ _) | (with_reducible assumption) | (with_reducible refine Below.setCell ?_ ?_ _) | (with_reducible refine Below.alloc ?_ ?_ _) | (with_reducible refine Below.drew ?_) | omega | (simp; done) | (simp; omega)), css.eraseIdx i, ?_, rows_erase (P := fun cs x => cs.length = 4 ∧ PR.row _ _ cs x) (rows_later PR.mono PR.monoF HR.out (.of_below (B := w.heap.size) (by repeat' (first | (with_reducible exact Below.refl _ _) | (with_reducible assumption) | (with_reducible refine Below.setCell ?_ ?_ _) | (with_reducible refine Below.alloc ?_ ?_ _) | (with_reducible refine Below.drew ?_) | omega | (simp; done) | (simp; omega))) (Nat.le_refl _)) (fun b h _ => .inl h)), ?_⟩
    · rw [List.length_eraseIdx, List.length_eraseIdx, K1.out]
    · have h5 := own_setCell_ne ho3 (a := ⟨w.heap.size + 1, 0, none⟩) (.slice V3 (i + (ps.length - (i + 1))) vc3) (fun h => by have := (ho3.lt _ h).1; (try simp at this); omega)
      have h6 := Sl.of_own (F := up F w.heap.size) h5 (fun b hb _ => .inr (by have := (ho3.lt _ hb).1; (try simp at this); omega))
      rw [flatten_take HL.out, flatten_drop HL.out, ← List.flatten_append, ← List.eraseIdx_eq_take_drop_succ] at h6
      have e1 : (ps.eraseIdx i).length = i + (ps.length - (i + 1)) := by rw [List.length_eraseIdx, if_pos hi]; omega
      rw [e1]
      exact h6
end Go.Proofs.Ytlnpelohdamklaa
