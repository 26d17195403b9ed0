import Derived.Test.YtlnpelohdamklaaAwake
import Derived.Test.YtlnpelohdamklaaJoinsSpec
import Derived.Outline
namespace Go.Proofs.Ytlnpelohdamklaa
open Go.RowKit
set_option linter.unusedVariables false
set_option linter.unusedSimpArgs false

theorem R16.open_ {F : Foot} {w : World} {v : Value} {xss : List (List Int)} (h : SlOf R16 F w 1 v xss) : ∃ A c, v = .slice A xss.length c ∧ xss.length ≤ c ∧ c ≤ 9223372036854775807 ∧ (A = none → c = 0) ∧
    ∀ i, i < xss.length → ∃ b off xs E ec, A = some ⟨b, off, none⟩ ∧ b < w.heap.size ∧ Hid (xss[i]? = some xs) ∧ w.cell? ⟨b, off + i, none⟩ = some (.slice E xs.length ec) ∧ xs.length ≤ ec ∧ ec ≤ 9223372036854775807 ∧ Ints F w .u16 (.slice E xs.length ec) xs ∧ ∀ x ∈ xs, 0 ≤ x ∧ x ≤ 65535 := by
  obtain ⟨A, c, e, g1, g2, g3, g4⟩ := SlOf.open_ (by omega) h
  refine ⟨A, c, e, g1, g2, g3, fun i hi => ?_⟩
  obtain ⟨b, off, cs, x, e1, e2, e3, ⟨e4, u, rfl, e5⟩, e6, e7⟩ := g4 i hi
  obtain ⟨E, ec, rfl, k1, k2⟩ := e5.shape
  exact ⟨b, off, x, E, ec, e1, e2, e6, by simpa using e7 0 (by omega), k1, k2, e5, e4⟩

set_option maxRecDepth 100000 in
set_option maxHeartbeats 4000000 in
theorem joins_walk {F : Foot} (v : Value) (xss : List (List Int)) (ahead : Bool) (w : World) (hv : SlOf R16 F w 1 v xss) :
    Calls Try.prog 3 #[v, .bool ahead] w fun e w' => e = .returned (.bool true) ∧ Below w.heap.size w w' := by
  obtain ⟨A, c, rfl, h1, h2, _, h4⟩ := R16.open_ hv
  clear hv
  by_cases hbig : 20 < xss.length
  · clear h4
    go_enter Try.func3, Try.ntmps3
    go_wp2_with (go_at_call 9; refine (awake_any _).mono ?_; rintro e w1 ⟨rfl, hb1⟩)
    go_ret
    exact ⟨rfl, hb1⟩
  go_enter Try.func3, Try.ntmps3
  go_wp2_with fail
  go_loopw [6, 7] (fun wv i wr => ∃ (k : Nat) (lv : Value), k ≤ xss.length ∧ i = .int .i64 k ∧ (∀ d ∈ xss.take k, d.length ≤ 50) ∧ Ints (fun b => w.heap.size < b) wr .i64 wv (wantF ahead (xss.take k)) ∧
      wr.cell? ⟨w.heap.size, 0, none⟩ = some lv ∧ wr.frozen? ⟨w.heap.size, 0, none⟩ = false ∧ Props (fun b => w.heap.size < b) wr lv (joinPs ahead (xss.take k)) ∧ Below w.heap.size w wr ∧ w.heap.size < wr.heap.size) (fun _ i _ => xss.length - (intOf i).toNat)
  case atStart => exact ⟨0, .slice none 0 0, by omega, rfl, by simp, Ints.zero_, by go_simp, by go_simp, SlOf.nil_, by repeat' (first | (with_reducible exact Below.refl _ _) | (with_reducible assumption) | (with_reducible refine Below.setCell ?_ ?_ _) | (with_reducible refine Below.alloc ?_ ?_ _) | (with_reducible refine Below.drew ?_) | omega | (simp; done) | (simp; omega)), by simp⟩
  case round =>
    obtain ⟨k, lv, hk, rfl, h50, hwant, hlc, hlf, hprops, hbel, hsz⟩ := hrel
    obtain ⟨wo, rfl⟩ : ∃ wo : World, wo = wr := ⟨_, rfl⟩
    by_cases hlt : k < xss.length
    · have H50 := Lib.hid h50
      have HW := Lib.hid hwant
      have HP := Lib.hid hprops
      obtain ⟨WA, wc, rfl, _⟩ := hwant.shape
      obtain ⟨LA, lc, rfl, _⟩ := SlOf.shape hprops
      clear h50 hwant hprops
      obtain ⟨bk, off, xs, E, ec, rfl, hb1, HX, hc1, he1, he2, hxs, hr⟩ := h4 k hlt
      have hc1' := (hbel.cell (p := ⟨bk, off + k, none⟩) hb1).trans hc1
      have HR := Lib.hid hr
      clear h4 hc1 hr
      by_cases h5 : 50 < xs.length
      · clear hxs
        go_wp2_with (go_at_call 9; refine (awake_any _).mono ?_; rintro e w1 ⟨rfl, hb1⟩)
        go_ret
        exact ⟨rfl, hbel.trans (hb1.mono hbel.size)⟩
      · obtain ⟨A', c', e', g1, g2, _, g4⟩ := hxs.open_
        injection e' with e1 _ _
        subst e1
        clear hxs
        go_wp2_with fail
        go_loopw [8, 9] (fun dv j wi => ∃ m : Nat, m ≤ xs.length ∧ j = .int .i64 m ∧ wi.ownsRow wo.heap.size 2 1 dv m ((xs.take m).map (.int .i64)) ∧ Below wo.heap.size wo wi) (fun _ j _ => xs.length - (intOf j).toNat)
        case atStart => exact ⟨0, by omega, rfl, World.ownsRow_nil _ _ _ _, Below.refl _ _⟩
        case round =>
          obtain ⟨m, hm, rfl, hown, hin⟩ := hrel
          have HO := Lib.hid hown
          obtain ⟨V, vc, rfl, _⟩ := own_shape hown
          have hc2 := (hin.cell (p := ⟨bk, off + k, none⟩) (by simp; omega)).trans hc1'
          have hl2 := (hin.cell (p := ⟨w.heap.size, 0, none⟩) (by simpa using hsz)).trans hlc
          have hf2 := (hin.frozen (p := ⟨w.heap.size, 0, none⟩) (by simpa using hsz)).trans hlf
          have hz2 := hin.size
          clear hown
          by_cases hlt2 : m < xs.length
          · obtain ⟨b2, off2, x, rfl, hb2, hx, HX2⟩ := g4 m hlt2
            have hx' := (hin.cell (p := ⟨b2, off2 + m, none⟩) (by simp; have := hbel.size; omega)).trans ((hbel.cell (p := ⟨b2, off2 + m, none⟩) hb2).trans hx)
            obtain ⟨hx1, hx2⟩ := HR.out x (mem_of_at HX2)
            clear hx g4
            go_wp2_with (at_builtin; go_loud (refine wpL_append (w := wr.alloc (.cells #[.int .i64 x] 2)) rfl (.tmp 41) (.tmp 50) _ rfl sty_ints wo.heap.size (.slice V m vc) m _ rfl (HO.out.alloc _) (.slice (some ⟨wr.heap.size, 0, none⟩) 1 1) 1 _ rfl (Sl.new_ wr #[.int .i64 x] 2 1 1 rfl (by unfold maxLen; omega)) (by simp [Value.oneCell']) (by unfold maxLen; omega) (by omega) (by simp; omega) ?_); intro v' w1 ho1 hg1 hat1)
            go_roundw
            case rel => exact ⟨m + 1, by omega, by go_num, by rw [take_snoc HX2]; simpa using ho1, (hin.alloc hz2 _).grown hg1 (by simp; omega) (fun j hj => (HO.out.lt j hj).1)⟩
            case measure => simp [intOf]; omega
          · obtain rfl : m = xs.length := by omega
            clear g4
            have ho := HO.out
            rw [List.take_length] at ho
            have HDt : Hid (Ints (fun b => w.heap.size < b) wr .i64 (.slice V xs.length vc) xs) := own_ints ho rfl (fun b _ hb => by omega)
            have CJ := Lib.hid (change_join ahead (xss.take k) xs HR.out (by omega) H50.out (by simp; omega))
            have JO := Lib.hid (joinPs_ok ahead (xss.take k) H50.out (by simp; omega))
            have WL := Lib.hid (wantF_len ahead (xss.take k) H50.out)
            have hWl : (wantF ahead (xss.take k)).length ≤ 1000 := by have := WL.out; simp at this; omega
            have hkt : ∀ d ∈ xss.take (k + 1), d.length ≤ 50 := by
              rw [take_snoc HX]
              intro d hd
              rw [List.mem_append] at hd
              rcases hd with hd | hd
              · exact H50.out d hd
              · simp at hd; subst hd; omega
            have HKT := Lib.hid hkt
            clear ho hkt HO
            cases ahead
            · go_wp2_with (first
                | (go_at_call 10; go_must (refine (change_any (F := fun b => w.heap.size < b) (G := fun b => w.heap.size < b) _ (joinPs _ (xss.take k)) _ ⟨9, 5, 16, xs⟩ _ _ (HP.out.below hin (Nat.le_refl _)) (by simp [PR.ok]) HDt.out (by simp; omega) JO.out.2 JO.out.1).mono ?_; rw [show changeF (joinPs false (xss.take k)) 2 ⟨9, 5, 16, xs⟩ = (joinPs false (xss.take k ++ [xs]), 0) from CJ.out]; rintro e w3 ⟨v3, rfl, hb3, hp3⟩; obtain ⟨L3, c3, rfl, _⟩ := SlOf.shape hp3; have HP3 := Lib.hid (Props.wider (G := fun b => w.heap.size < b) hp3 (fun b h _ => h.elim (fun h => h) (fun h => by omega))); clear hp3; have hl3 := (hb3.cell (p := ⟨w.heap.size, 0, none⟩) (by simp; omega)).trans hl2; have hf3 := (hb3.frozen (p := ⟨w.heap.size, 0, none⟩) (by simp; omega)).trans hf2; have hz3 := hb3.size; have hy3 : w.heap.size < w3.heap.size := (by omega)))
                | (go_at_call 11; go_must (refine (rjoin_any (F := fun b => w.heap.size < b) (G := fun b => w.heap.size < b) _ _ (wantF false (xss.take k)) xs _ (Ints.below (Ints.agree (Ints.below (HW.out.below hin (Nat.le_refl _)) hb3 (Nat.le_refl _)) (Agree.setCell (a := ⟨w.heap.size, 0, none⟩) _ (by simp))) ((Below.refl _ _).alloc (Nat.le_refl _) _) (Nat.le_refl _)) (Ints.below (Ints.agree (Ints.below HDt.out hb3 (Nat.le_refl _)) (Agree.setCell (a := ⟨w.heap.size, 0, none⟩) _ (by simp))) ((Below.refl _ _).alloc (Nat.le_refl _) _) (Nat.le_refl _)) (by omega)).mono ?_; rintro e w4 ⟨v4, rfl, hb4, ho4⟩; have hz4 := hb4.size; (try simp at hz4); have hl4 : w4.cell? ⟨w.heap.size, 0, none⟩ = some (.slice L3 (joinPs false (xss.take k ++ [xs])).length c3) := ((hb4.cell (p := ⟨w.heap.size, 0, none⟩) (by simp; omega)).trans (by simp [go_sem, hy3, hl3])); have hf4 := (hb4.frozen (p := ⟨w.heap.size, 0, none⟩) (by simp; omega)))))
              go_roundw
              case rel =>
                have hB3 : Below w.heap.size w w3 := (hbel.trans (hin.mono (by omega))).trans (hb3.mono (by omega))
                refine ⟨k + 1, .slice L3 (joinPs false (xss.take k ++ [xs])).length c3, by omega, by go_num, HKT.out, ?_, hl4, ?_, ?_, ?_, by omega⟩
                · rw [take_snoc HX, wantF_snoc]
                  exact own_ints ho4 (by simp) (fun b _ hb => by (try simp at hb); omega)
                · exact hf4.trans (by go_simp)
                · rw [take_snoc HX]
                  exact Props.below (Props.below (Props.agree HP3.out (Agree.setCell (a := ⟨w.heap.size, 0, none⟩) _ (by simp))) ((Below.refl _ _).alloc (Nat.le_refl _) _) (Nat.le_refl _)) hb4 (Nat.le_refl _)
                · exact Below.trans (by repeat' (first | (with_reducible exact Below.refl _ _) | (with_reducible assumption) | (with_reducible refine Below.setCell ?_ ?_ _) | (with_reducible refine Below.alloc ?_ ?_ _) | (with_reducible refine Below.drew ?_) | omega | (simp; done) | (simp; omega))) (hb4.mono (by simp; omega))
              case measure => simp [intOf]; omega
            · go_wp2_with (first
                | (go_at_call 10; go_must (refine (change_any (F := fun b => w.heap.size < b) (G := fun b => w.heap.size < b) _ (joinPs _ (xss.take k)) _ ⟨9, 5, 16, xs⟩ _ _ (HP.out.below hin (Nat.le_refl _)) (by simp [PR.ok]) HDt.out (by simp; omega) JO.out.2 JO.out.1).mono ?_; rw [show changeF (joinPs true (xss.take k)) 1 ⟨9, 5, 16, xs⟩ = (joinPs true (xss.take k ++ [xs]), 0) from CJ.out]; rintro e w3 ⟨v3, rfl, hb3, hp3⟩; obtain ⟨L3, c3, rfl, _⟩ := SlOf.shape hp3; have HP3 := Lib.hid (Props.wider (G := fun b => w.heap.size < b) hp3 (fun b h _ => h.elim (fun h => h) (fun h => by omega))); clear hp3; have hl3 := (hb3.cell (p := ⟨w.heap.size, 0, none⟩) (by simp; omega)).trans hl2; have hf3 := (hb3.frozen (p := ⟨w.heap.size, 0, none⟩) (by simp; omega)).trans hf2; have hz3 := hb3.size; have hy3 : w.heap.size < w3.heap.size := (by omega)))
                | (go_at_call 11; go_must (refine (rjoin_any (F := fun b => w.heap.size < b) (G := fun b => w.heap.size < b) _ _ xs (wantF true (xss.take k)) _ (Ints.below (Ints.agree (Ints.below HDt.out hb3 (Nat.le_refl _)) (Agree.setCell (a := ⟨w.heap.size, 0, none⟩) _ (by simp))) ((Below.refl _ _).alloc (Nat.le_refl _) _) (Nat.le_refl _)) (Ints.below (Ints.agree (Ints.below (HW.out.below hin (Nat.le_refl _)) hb3 (Nat.le_refl _)) (Agree.setCell (a := ⟨w.heap.size, 0, none⟩) _ (by simp))) ((Below.refl _ _).alloc (Nat.le_refl _) _) (Nat.le_refl _)) (by omega)).mono ?_; rintro e w4 ⟨v4, rfl, hb4, ho4⟩; have hz4 := hb4.size; (try simp at hz4); have hl4 : w4.cell? ⟨w.heap.size, 0, none⟩ = some (.slice L3 (joinPs true (xss.take k ++ [xs])).length c3) := ((hb4.cell (p := ⟨w.heap.size, 0, none⟩) (by simp; omega)).trans (by simp [go_sem, hy3, hl3])); have hf4 := (hb4.frozen (p := ⟨w.heap.size, 0, none⟩) (by simp; omega)))))
              go_roundw
              case rel =>
                have hB3 : Below w.heap.size w w3 := (hbel.trans (hin.mono (by omega))).trans (hb3.mono (by omega))
                refine ⟨k + 1, .slice L3 (joinPs true (xss.take k ++ [xs])).length c3, by omega, by go_num, HKT.out, ?_, hl4, ?_, ?_, ?_, by omega⟩
                · rw [take_snoc HX, wantF_snoc]
                  exact own_ints ho4 (by simp) (fun b _ hb => by (try simp at hb); omega)
                · exact hf4.trans (by go_simp)
                · rw [take_snoc HX]
                  exact Props.below (Props.below (Props.agree HP3.out (Agree.setCell (a := ⟨w.heap.size, 0, none⟩) _ (by simp))) ((Below.refl _ _).alloc (Nat.le_refl _) _) (Nat.le_refl _)) hb4 (Nat.le_refl _)
                · exact Below.trans (by repeat' (first | (with_reducible exact Below.refl _ _) | (with_reducible assumption) | (with_reducible refine Below.setCell ?_ ?_ _) | (with_reducible refine Below.alloc ?_ ?_ _) | (with_reducible refine Below.drew ?_) | omega | (simp; done) | (simp; omega))) (hb4.mono (by simp; omega))
              case measure => simp [intOf]; omega
    · obtain rfl : k = xss.length := by omega
      clear h4
      rw [List.take_length] at h50 hwant hprops
      have H50 := Lib.hid h50
      have HW := Lib.hid hwant
      have HP := Lib.hid hprops
      obtain ⟨WA, wc, rfl, _⟩ := hwant.shape
      obtain ⟨LA, lc, rfl, _⟩ := SlOf.shape hprops
      clear h50 hwant hprops
      have JO := Lib.hid (joinPs_ok ahead xss H50.out (by omega))
      have hcmp : ∃ r : PR × Bool, findF (joinPs ahead xss) 9 = r ∧ r.1.data = wantF ahead xss ∧ r.2 = decide (0 < xss.length) := by
        refine ⟨_, find_join _ _, ?_⟩
        by_cases hE : xss = []
        · subst hE; simp [noPR, wantF]
        · have h0 : 0 < xss.length := List.length_pos_iff.2 hE
          rw [if_neg hE]
          exact ⟨rfl, by simp [h0]⟩
      obtain ⟨⟨⟨r1, r2, r3, r4⟩, ok⟩, hfr, hrd, hok⟩ := hcmp
      simp only at hrd hok
      subst hrd
      have FJ := Lib.hid hfr
      clear hfr
      by_cases hE : 0 < xss.length
      all_goals
        (first | rw [decide_eq_true hE] at hok | rw [decide_eq_false hE] at hok)
        subst hok
        go_wp2_with (first
          | (go_at_call 12; go_must (refine (find_any _ (joinPs ahead xss) 9 _ HP.out JO.out.1).mono ?_; rw [FJ.out]; rintro e w3 ⟨dv, rfl, hb3, hd3⟩; obtain ⟨DA, dc, rfl, _⟩ := hd3.shape; have HD := Lib.hid hd3; clear hd3; simp only [PR.val]; have hz3 := hb3.size))
          | (go_at_call 13; go_must (refine (same_any (F := fun _ => True) (G := fun _ => True) _ _ _ (wantF ahead xss) (wantF ahead xss) (Ints.mono (Ints.below HD.out ((Below.refl _ _).alloc (Nat.le_refl _) _) (Nat.le_refl _)) (fun _ _ _ => trivial)) (Ints.mono (Ints.below (Ints.below HW.out hb3 (Nat.le_refl _)) ((Below.refl _ _).alloc (Nat.le_refl _) _) (Nat.le_refl _)) (fun _ _ _ => trivial))).mono ?_; rintro e w4 ⟨rfl, nd, rfl⟩))
          | (go_at_call 9; go_must (refine (awake_any _).mono ?_; rintro e w5 ⟨rfl, hb5⟩)))
        go_ret
        refine ⟨rfl, ?_⟩
        have hz := hbel.size
        have hB3 : Below w.heap.size w w3 := hbel.trans (hb3.mono (by omega))
        refine Below.trans ?_ (hb5.mono ?_)
        · have h := hB3.alloc (by omega) (.cells #[.int .u32 r1, .int .u32 r2, .int .i64 r3, .slice DA (wantF ahead xss).length dc] 36)
          exact ⟨h.os, h.tape, h.output, h.size, h.block⟩
        · simp; omega
end Go.Proofs.Ytlnpelohdamklaa
