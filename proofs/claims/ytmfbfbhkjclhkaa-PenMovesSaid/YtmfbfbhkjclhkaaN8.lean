/- Pens: Change. No condition. -/
import Derived.Test.YtmfbfbhkjclhkaaN7
import Derived.Test.YtmfbfbhkjclhkaaN6
import Derived.Test.YtmfbfbhkjclhkaaC2
namespace Go.Proofs.Ytmfbfbhkjclhkaa
open Go Go.VM
attribute [local irreducible] PurV Pur Step RL W D ACalls Then InBlock Fini
set_option linter.unusedVariables false
set_option linter.unusedSimpArgs false
set_option maxHeartbeats 20000000
theorem and_bits : (List.range 32).all (fun m => (List.range 5).all fun i => (bitsI .and .i64 (m : Int) ((2 ^ i : Nat) : Int) == 0) == !bitM m i) = true := by decide +kernel
theorem and_bit {m i : Nat} (hm : m < 32) (hi : i < 5) : bitsI .and .i64 (m : Int) ((2 ^ i : Nat) : Int) = 0 ↔ bitM m i = false := by
  have := List.all_eq_true.1 (List.all_eq_true.1 and_bits m (List.mem_range.2 hm)) i (List.mem_range.2 hi)
  rw [beq_iff_eq] at this
  constructor
  · intro e
    rw [e] at this
    simpa using this.symm
  · intro e
    rw [e] at this
    simpa using this
theorem okS {m i : Nat} {n : List Int} (h : ∀ j, j < i → okN m n j = true) (hi : okN m n i = true) : ∀ j, j < i + 1 → okN m n j = true := fun j hj => by
  rcases (by omega : j < i ∨ j = i) with g | g
  · exact h j g
  · subst g; exact hi
theorem chg_form {p : PN} {m : Nat} {n : List Int} (hc : chkF p = 0) (hm : m < 32) (hn : n.length = 5) : chgF p m n = if badN m n = 0 then (putC m n p 5, 0) else (p, badN m n) := by
  unfold chgF
  rw [if_neg (fun q => q hc), if_neg (show ¬ ((m : Int) < 0 ∨ 31 < (m : Int)) by omega), if_neg (show ¬ n.length ≠ 5 by omega), Int.toNat_natCast]
theorem chg_ok {p : PN} {m : Nat} {n : List Int} (hc : chkF p = 0) (hm : m < 32) (hn : n.length = 5) (hI : ∀ j, j < 5 → okN m n j = true) : chgF p m n = (putC m n p 5, 0) := by
  rw [chg_form hc hm hn, if_pos (badN_0.2 ⟨hI 0 (by omega), hI 1 (by omega), hI 2 (by omega), hI 3 (by omega), hI 4 (by omega)⟩)]
theorem chg_bad {p : PN} {m i : Nat} {n : List Int} (hc : chkF p = 0) (hm : m < 32) (hn : n.length = 5) (hI : ∀ j, j < i → okN m n j = true) (e : okN m n i = false) (h5 : i < 5) : chgF p m n = (p, badC i) := by
  have h0 : badN m n = badC i := by
    unfold badN badC
    by_cases hi : i = 0
    · subst hi; rw [if_pos e, if_pos rfl]
    · rw [if_neg hi, if_neg (by rw [hI 0 (by omega)]; decide), if_neg]
      intro q
      simp only [Bool.and_eq_true] at q
      rcases (by omega : i = 1 ∨ i = 2 ∨ i = 3 ∨ i = 4) with rfl | rfl | rfl | rfl
      · rw [q.1.1.1] at e; cases e
      · rw [q.1.1.2] at e; cases e
      · rw [q.1.2] at e; cases e
      · rw [q.2] at e; cases e
  have h1 : badC i ≠ 0 := by unfold badC; split <;> decide
  rw [chg_form hc hm hn, h0, if_neg h1]
set_option maxRecDepth 100000 in
theorem change_ok (p : PN) (m : Nat) (n : List Int) (h : Heap) (hl : p.clip.length ≤ 300) (hck : chkF p = 0) (hm : m < 32) (hn : n.length = 5) :
    ACalls Try.prog 12 [p.enc, .val (.int .i64 (m)), .ro 1 (ints .i64 n)] h (fun r h' => r = .tup [(chgF p m n).1.enc, .val (.int .i64 ((chgF p m n).2))] ∧ h' = h) := by
  have tw := fun h => twin_c p h hl
  have ck := fun h => chk_c p h hl
  rw [hck] at ck
  have fc := fun h => fields_c h
  unfold fieldsL at fc
  simp only [pn_enc] at *
  have ef : ∀ q : PN, q.enc = .agg q.cells := fun q => rfl
  obtain ⟨n0, n1, n2, n3, n4, rfl⟩ : ∃ n0 n1 n2 n3 n4, n = [n0, n1, n2, n3, n4] := by
    match n, hn with
    | [n0, n1, n2, n3, n4], _ => exact ⟨n0, n1, n2, n3, n4, rfl⟩
  refine ACalls.intro Try.func12 rfl Try.ntmps12 Try.results12 (Nat.le_of_ble_eq_true rfl) ?_
  (repeat' (first | (refine iS ?_; refine iMu ?_; refine S.mapU ?_) | refine svz ⟨fun b hq => ?_⟩ | refine sv1 ?_ | refine svs ⟨?_⟩ | refine svu ⟨fun u => ?_⟩ | (refine svg (fun hg => ?_) (fun hg => ?_) <;> try (exfalso; first | omega | contradiction)) | (refine svc (fun hc => ?_) (fun hc => ?_) <;> try (exfalso; first | omega | contradiction)) | refine sv2 ?_ | refine svh (fun hb => ?_) (fun hb => ?_) | refine svb (fun b => ?_) | refine sva ?_ | refine sv3 ?_))
  rename_i b3
  revert b; intro b6
  refine S.call ?_; refine (tw _).mono ?_; rintro r h' ⟨rfl, hh⟩; subst hh
  (repeat' (first | (refine iS ?_; refine iMu ?_; refine S.mapU ?_) | refine svz ⟨fun b hq => ?_⟩ | refine sv1 ?_ | refine svs ⟨?_⟩ | refine svu ⟨fun u => ?_⟩ | (refine svg (fun hg => ?_) (fun hg => ?_) <;> try (exfalso; first | omega | contradiction)) | (refine svc (fun hc => ?_) (fun hc => ?_) <;> try (exfalso; first | omega | contradiction)) | refine sv2 ?_ | refine svh (fun hb => ?_) (fun hb => ?_) | refine svb (fun b => ?_) | refine sva ?_ | refine sv3 ?_))
  refine S.call ?_; refine (ck _).mono ?_; rintro r h' ⟨rfl, hh⟩; subst hh
  (repeat' (first | (refine iS ?_; refine iMu ?_; refine S.mapU ?_) | refine svz ⟨fun b hq => ?_⟩ | refine sv1 ?_ | refine svs ⟨?_⟩ | refine svu ⟨fun u => ?_⟩ | (refine svg (fun hg => ?_) (fun hg => ?_) <;> try (exfalso; first | omega | contradiction)) | (refine svc (fun hc => ?_) (fun hc => ?_) <;> try (exfalso; first | omega | contradiction)) | refine sv2 ?_ | refine svh (fun hb => ?_) (fun hb => ?_) | refine svb (fun b => ?_) | refine sva ?_ | refine sv3 ?_))
  refine S.call ?_; refine (fc _).mono ?_; rintro r h' ⟨rfl, hh⟩; subst hh
  (repeat' (first | (refine iS ?_; refine iMu ?_; refine S.mapU ?_) | refine svz ⟨fun b hq => ?_⟩ | refine sv1 ?_ | refine svs ⟨?_⟩ | refine svu ⟨fun u => ?_⟩ | (refine svg (fun hg => ?_) (fun hg => ?_) <;> try (exfalso; first | omega | contradiction)) | (refine svc (fun hc => ?_) (fun hc => ?_) <;> try (exfalso; first | omega | contradiction)) | refine sv2 ?_ | refine svh (fun hb => ?_) (fun hb => ?_) | refine svb (fun b => ?_) | refine sva ?_ | refine sv3 ?_))
  revert b; intro b10
  clear tw ck fc
  refine W.loop (J := fun i : Nat => ⟨68, [(38, .val (.int .i64 (i))), (37, .val (.int .i64 (5))), (36, .ro 3 [.agg [.val (.func (.func 40) #[] #[]), .val (.int .i64 (10)), .val (.func (.func 46) #[] #[])], .agg [.val (.func (.func 47) #[] #[]), .val (.int .i64 (1)), .val (.func (.func 48) #[] #[])], .agg [.val (.func (.func 47) #[] #[]), .val (.int .i64 (1)), .val (.func (.func 49) #[] #[])], .agg [.val (.func (.func 47) #[] #[]), .val (.int .i64 (1)), .val (.func (.func 50) #[] #[])], .agg [.val (.func (.func 51) #[] #[]), .val (.int .i64 (1)), .val (.func (.func 52) #[] #[])]]), (10, .val (.pointer (some ⟨b10, 0, none⟩))), (6, .val (.pointer (some ⟨b6, 0, none⟩))), (3, .val (.pointer (some ⟨b3, 0, none⟩))), (1, .val (.int .i64 (m))), (2, .ro 1 (ints .i64 [n0, n1, n2, n3, n4]))], .box b10 (putC m [n0, n1, n2, n3, n4] p i).cells 27 :: .box b6 [.val (.int .i64 (0)), .val (.int .u8 (0)), .val (.int .u8 (0)), .val (.int .u8 (0)), .val (.int .u32 0), .val (.int .i64 (0)), .val (.int .i64 (0)), .val (.bool false), .val (.slice none 0 0)] 27 :: .box b3 p.cells 27 :: h⟩)
    (Φ := fun i => i ≤ 5 ∧ ∀ j, j < i → okN m [n0, n1, n2, n3, n4] j = true) (μ := fun i => 5 - i) 0 lee ⟨by omega, by omega⟩ ?_
  rintro i ⟨hi, hI⟩
  have hs : putC m [n0, n1, n2, n3, n4] p (i + 1) = if bitM m i then setC i (putC m [n0, n1, n2, n3, n4] p i) ([n0, n1, n2, n3, n4].getD i 0) else putC m [n0, n1, n2, n3, n4] p i := rfl
  have hbad : okN m [n0, n1, n2, n3, n4] i = false → i < 5 → chgF p m [n0, n1, n2, n3, n4] = (p, badC i) := fun e h5 => chg_bad hck hm rfl hI e h5
  have hfin : i = 5 → chgF p m [n0, n1, n2, n3, n4] = (putC m [n0, n1, n2, n3, n4] p i, 0) := fun e => by subst e; exact chg_ok hck hm rfl hI
  generalize hq1 : putC m [n0, n1, n2, n3, n4] p (i + 1) = q1 at *
  generalize putC m [n0, n1, n2, n3, n4] p i = q at *
  generalize chgF p m [n0, n1, n2, n3, n4] = R at *
  rcases (by omega : i = 0 ∨ i = 1 ∨ i = 2 ∨ i = 3 ∨ i = 4 ∨ i = 5) with rfl | rfl | rfl | rfl | rfl | rfl
  · refine W.le (s' := ⟨68, [(38, .val (.int .i64 (0))), (37, .val (.int .i64 (5))), (36, .ro 3 [.agg [.val (.func (.func 40) #[] #[]), .val (.int .i64 (10)), .val (.func (.func 46) #[] #[])], .agg [.val (.func (.func 47) #[] #[]), .val (.int .i64 (1)), .val (.func (.func 48) #[] #[])], .agg [.val (.func (.func 47) #[] #[]), .val (.int .i64 (1)), .val (.func (.func 49) #[] #[])], .agg [.val (.func (.func 47) #[] #[]), .val (.int .i64 (1)), .val (.func (.func 50) #[] #[])], .agg [.val (.func (.func 51) #[] #[]), .val (.int .i64 (1)), .val (.func (.func 52) #[] #[])]]), (10, .val (.pointer (some ⟨b10, 0, none⟩))), (6, .val (.pointer (some ⟨b6, 0, none⟩))), (3, .val (.pointer (some ⟨b3, 0, none⟩))), (1, .val (.int .i64 (m))), (2, .ro 1 (ints .i64 [n0, n1, n2, n3, n4]))], .box b10 [.val (.int .i64 (q.fn)), .val (.int .u8 (q.pl)), .val (.int .u8 (q.fo)), .val (.int .u8 (q.ba)), .val (.int .u32 q.ft), .val (.int .i64 (q.x)), .val (.int .i64 (q.y)), .val (.bool q.cl), .ro 4 (q.clip.map RC.enc)] 27 :: .box b6 [.val (.int .i64 (0)), .val (.int .u8 (0)), .val (.int .u8 (0)), .val (.int .u8 (0)), .val (.int .u32 0), .val (.int .i64 (0)), .val (.int .i64 (0)), .val (.bool false), .val (.slice none 0 0)] 27 :: .box b3 [.val (.int .i64 (p.fn)), .val (.int .u8 (p.pl)), .val (.int .u8 (p.fo)), .val (.int .u8 (p.ba)), .val (.int .u32 p.ft), .val (.int .i64 (p.x)), .val (.int .i64 (p.y)), .val (.bool p.cl), .ro 4 (p.clip.map RC.enc)] 27 :: h⟩) lee ?_
    have hbit := and_bit (m := m) (i := 0) hm (by omega)
    have ho := okN_put m [n0, n1, n2, n3, n4] 0
    (repeat' (first | (refine iS ?_; refine iMu ?_; refine S.mapU ?_) | refine svz ⟨fun b hq => ?_⟩ | refine sv1 ?_ | refine svs ⟨?_⟩ | refine svu ⟨fun u => ?_⟩ | (refine svg (fun hg => ?_) (fun hg => ?_) <;> try (exfalso; first | omega | contradiction)) | (refine svc (fun hc => ?_) (fun hc => ?_) <;> try (exfalso; first | omega | contradiction)) | refine sv2 ?_ | refine svh (fun hb => ?_) (fun hb => ?_) | refine svb (fun b => ?_) | refine sva ?_ | refine sv3 ?_))
    · have hz := hbit.1 hc
      rw [hz] at hs ho
      subst hs
      exact ⟨1, ⟨by omega, okS hI (ho.2 (fun q => by cases q))⟩, by rw [show putC m [n0, n1, n2, n3, n4] p 1 = _ from hq1]; exact lee, by omega⟩
    · have hz : bitM m 0 = true := by
        cases e : bitM m 0 with
        | true => rfl
        | false => exact absurd (hbit.2 e) hc
      rw [hz] at hs ho
      rw [if_pos rfl] at hs
      have cf := fun h => isfunc_c n0 h
      by_cases hv : okC 0 n0 = true
      · have hv2 := of_decide_eq_true hv
        rw [decide_eq_true hv2] at cf
        refine R2.Cv (.fn 40) (cf _) ?_
        (repeat' ((fail_if_success (refine drg ?_)); (first | (refine iS ?_; refine iMu ?_; refine S.mapU ?_) | refine svz ⟨fun b hq => ?_⟩ | refine sv1 ?_ | refine svs ⟨?_⟩ | refine svu ⟨fun u => ?_⟩ | (refine svg (fun hg => ?_) (fun hg => ?_) <;> try (exfalso; first | omega | contradiction)) | (refine svc (fun hc => ?_) (fun hc => ?_) <;> try (exfalso; first | omega | contradiction)) | refine sv2 ?_ | refine svh (fun hb => ?_) (fun hb => ?_) | refine svb (fun b => ?_) | refine sva ?_ | refine sv3 ?_)))
        refine W.dr (.ro (.rw (.ro (.ro (.done _))))) ?_
        (repeat' (first | (refine iS ?_; refine iMu ?_; refine S.mapU ?_) | refine svz ⟨fun b hq => ?_⟩ | refine sv1 ?_ | refine svs ⟨?_⟩ | refine svu ⟨fun u => ?_⟩ | (refine svg (fun hg => ?_) (fun hg => ?_) <;> try (exfalso; first | omega | contradiction)) | (refine svc (fun hc => ?_) (fun hc => ?_) <;> try (exfalso; first | omega | contradiction)) | refine sv2 ?_ | refine svh (fun hb => ?_) (fun hb => ?_) | refine svb (fun b => ?_) | refine sva ?_ | refine sv3 ?_))
        refine R2.B ?_
        refine S.callv (.fn 46) ?_
        refine (set0_c q b10 n0 _).mono ?_
        rintro r h' ⟨rfl, hh⟩; subst hh
        refine kd ?_
        (repeat' (first | (refine iS ?_; refine iMu ?_; refine S.mapU ?_) | refine svz ⟨fun b hq => ?_⟩ | refine sv1 ?_ | refine svs ⟨?_⟩ | refine svu ⟨fun u => ?_⟩ | (refine svg (fun hg => ?_) (fun hg => ?_) <;> try (exfalso; first | omega | contradiction)) | (refine svc (fun hc => ?_) (fun hc => ?_) <;> try (exfalso; first | omega | contradiction)) | refine sv2 ?_ | refine svh (fun hb => ?_) (fun hb => ?_) | refine svb (fun b => ?_) | refine sva ?_ | refine sv3 ?_))
        subst hs
        exact ⟨1, ⟨by omega, okS hI (ho.2 (fun _ => hv))⟩, by rw [show putC m [n0, n1, n2, n3, n4] p 1 = _ from hq1]; exact lee, by omega⟩
      · have hv2 : okC 0 n0 = false := by simpa using hv
        have hR := hbad (by cases e : okN m [n0, n1, n2, n3, n4] 0 with
          | false => rfl
          | true => exact absurd (ho.1 e rfl) hv) (by omega)
        have hv3 := of_decide_eq_false hv2
        rw [decide_eq_false hv3] at cf
        refine R2.Cv (.fn 40) (cf _) ?_
        (repeat' ((fail_if_success (refine drg ?_)); (first | (refine iS ?_; refine iMu ?_; refine S.mapU ?_) | refine svz ⟨fun b hq => ?_⟩ | refine sv1 ?_ | refine svs ⟨?_⟩ | refine svu ⟨fun u => ?_⟩ | (refine svg (fun hg => ?_) (fun hg => ?_) <;> try (exfalso; first | omega | contradiction)) | (refine svc (fun hc => ?_) (fun hc => ?_) <;> try (exfalso; first | omega | contradiction)) | refine sv2 ?_ | refine svh (fun hb => ?_) (fun hb => ?_) | refine svb (fun b => ?_) | refine sva ?_ | refine sv3 ?_)))
        refine W.dr (.ro (.ro (.rw (.ro (.done _))))) ?_
        (repeat' (first | (refine iS ?_; refine iMu ?_; refine S.mapU ?_) | refine svz ⟨fun b hq => ?_⟩ | refine sv1 ?_ | refine svs ⟨?_⟩ | refine svu ⟨fun u => ?_⟩ | (refine svg (fun hg => ?_) (fun hg => ?_) <;> try (exfalso; first | omega | contradiction)) | (refine svc (fun hc => ?_) (fun hc => ?_) <;> try (exfalso; first | omega | contradiction)) | refine sv2 ?_ | refine svh (fun hb => ?_) (fun hb => ?_) | refine svb (fun b => ?_) | refine sva ?_ | refine sv3 ?_))
        subst hR
        exact fin_r (h' := h) ⟨rfl, rfl⟩
  · refine W.le (s' := ⟨68, [(38, .val (.int .i64 (1))), (37, .val (.int .i64 (5))), (36, .ro 3 [.agg [.val (.func (.func 40) #[] #[]), .val (.int .i64 (10)), .val (.func (.func 46) #[] #[])], .agg [.val (.func (.func 47) #[] #[]), .val (.int .i64 (1)), .val (.func (.func 48) #[] #[])], .agg [.val (.func (.func 47) #[] #[]), .val (.int .i64 (1)), .val (.func (.func 49) #[] #[])], .agg [.val (.func (.func 47) #[] #[]), .val (.int .i64 (1)), .val (.func (.func 50) #[] #[])], .agg [.val (.func (.func 51) #[] #[]), .val (.int .i64 (1)), .val (.func (.func 52) #[] #[])]]), (10, .val (.pointer (some ⟨b10, 0, none⟩))), (6, .val (.pointer (some ⟨b6, 0, none⟩))), (3, .val (.pointer (some ⟨b3, 0, none⟩))), (1, .val (.int .i64 (m))), (2, .ro 1 (ints .i64 [n0, n1, n2, n3, n4]))], .box b10 [.val (.int .i64 (q.fn)), .val (.int .u8 (q.pl)), .val (.int .u8 (q.fo)), .val (.int .u8 (q.ba)), .val (.int .u32 q.ft), .val (.int .i64 (q.x)), .val (.int .i64 (q.y)), .val (.bool q.cl), .ro 4 (q.clip.map RC.enc)] 27 :: .box b6 [.val (.int .i64 (0)), .val (.int .u8 (0)), .val (.int .u8 (0)), .val (.int .u8 (0)), .val (.int .u32 0), .val (.int .i64 (0)), .val (.int .i64 (0)), .val (.bool false), .val (.slice none 0 0)] 27 :: .box b3 [.val (.int .i64 (p.fn)), .val (.int .u8 (p.pl)), .val (.int .u8 (p.fo)), .val (.int .u8 (p.ba)), .val (.int .u32 p.ft), .val (.int .i64 (p.x)), .val (.int .i64 (p.y)), .val (.bool p.cl), .ro 4 (p.clip.map RC.enc)] 27 :: h⟩) lee ?_
    have hbit := and_bit (m := m) (i := 1) hm (by omega)
    have ho := okN_put m [n0, n1, n2, n3, n4] 1
    (repeat' (first | (refine iS ?_; refine iMu ?_; refine S.mapU ?_) | refine svz ⟨fun b hq => ?_⟩ | refine sv1 ?_ | refine svs ⟨?_⟩ | refine svu ⟨fun u => ?_⟩ | (refine svg (fun hg => ?_) (fun hg => ?_) <;> try (exfalso; first | omega | contradiction)) | (refine svc (fun hc => ?_) (fun hc => ?_) <;> try (exfalso; first | omega | contradiction)) | refine sv2 ?_ | refine svh (fun hb => ?_) (fun hb => ?_) | refine svb (fun b => ?_) | refine sva ?_ | refine sv3 ?_))
    · have hz := hbit.1 hc
      rw [hz] at hs ho
      subst hs
      exact ⟨2, ⟨by omega, okS hI (ho.2 (fun q => by cases q))⟩, by rw [show putC m [n0, n1, n2, n3, n4] p 2 = _ from hq1]; exact lee, by omega⟩
    · have hz : bitM m 1 = true := by
        cases e : bitM m 1 with
        | true => rfl
        | false => exact absurd (hbit.2 e) hc
      rw [hz] at hs ho
      rw [if_pos rfl] at hs
      have cf := fun h => ispixel_c n1 h
      by_cases hv : okC 1 n1 = true
      · have hv2 := of_decide_eq_true hv
        rw [decide_eq_true hv2] at cf
        refine R2.Cv (.fn 47) (cf _) ?_
        (repeat' ((fail_if_success (refine drg ?_)); (first | (refine iS ?_; refine iMu ?_; refine S.mapU ?_) | refine svz ⟨fun b hq => ?_⟩ | refine sv1 ?_ | refine svs ⟨?_⟩ | refine svu ⟨fun u => ?_⟩ | (refine svg (fun hg => ?_) (fun hg => ?_) <;> try (exfalso; first | omega | contradiction)) | (refine svc (fun hc => ?_) (fun hc => ?_) <;> try (exfalso; first | omega | contradiction)) | refine sv2 ?_ | refine svh (fun hb => ?_) (fun hb => ?_) | refine svb (fun b => ?_) | refine sva ?_ | refine sv3 ?_)))
        refine W.dr (.ro (.rw (.ro (.ro (.done _))))) ?_
        (repeat' (first | (refine iS ?_; refine iMu ?_; refine S.mapU ?_) | refine svz ⟨fun b hq => ?_⟩ | refine sv1 ?_ | refine svs ⟨?_⟩ | refine svu ⟨fun u => ?_⟩ | (refine svg (fun hg => ?_) (fun hg => ?_) <;> try (exfalso; first | omega | contradiction)) | (refine svc (fun hc => ?_) (fun hc => ?_) <;> try (exfalso; first | omega | contradiction)) | refine sv2 ?_ | refine svh (fun hb => ?_) (fun hb => ?_) | refine svb (fun b => ?_) | refine sva ?_ | refine sv3 ?_))
        refine R2.B ?_
        refine S.callv (.fn 48) ?_
        refine (set1_c q b10 n1 _ hv2).mono ?_
        rintro r h' ⟨rfl, hh⟩; subst hh
        refine kd ?_
        (repeat' (first | (refine iS ?_; refine iMu ?_; refine S.mapU ?_) | refine svz ⟨fun b hq => ?_⟩ | refine sv1 ?_ | refine svs ⟨?_⟩ | refine svu ⟨fun u => ?_⟩ | (refine svg (fun hg => ?_) (fun hg => ?_) <;> try (exfalso; first | omega | contradiction)) | (refine svc (fun hc => ?_) (fun hc => ?_) <;> try (exfalso; first | omega | contradiction)) | refine sv2 ?_ | refine svh (fun hb => ?_) (fun hb => ?_) | refine svb (fun b => ?_) | refine sva ?_ | refine sv3 ?_))
        subst hs
        exact ⟨2, ⟨by omega, okS hI (ho.2 (fun _ => hv))⟩, by rw [show putC m [n0, n1, n2, n3, n4] p 2 = _ from hq1]; exact lee, by omega⟩
      · have hv2 : okC 1 n1 = false := by simpa using hv
        have hR := hbad (by cases e : okN m [n0, n1, n2, n3, n4] 1 with
          | false => rfl
          | true => exact absurd (ho.1 e rfl) hv) (by omega)
        have hv3 := of_decide_eq_false hv2
        rw [decide_eq_false hv3] at cf
        refine R2.Cv (.fn 47) (cf _) ?_
        (repeat' ((fail_if_success (refine drg ?_)); (first | (refine iS ?_; refine iMu ?_; refine S.mapU ?_) | refine svz ⟨fun b hq => ?_⟩ | refine sv1 ?_ | refine svs ⟨?_⟩ | refine svu ⟨fun u => ?_⟩ | (refine svg (fun hg => ?_) (fun hg => ?_) <;> try (exfalso; first | omega | contradiction)) | (refine svc (fun hc => ?_) (fun hc => ?_) <;> try (exfalso; first | omega | contradiction)) | refine sv2 ?_ | refine svh (fun hb => ?_) (fun hb => ?_) | refine svb (fun b => ?_) | refine sva ?_ | refine sv3 ?_)))
        refine W.dr (.ro (.ro (.rw (.ro (.done _))))) ?_
        (repeat' (first | (refine iS ?_; refine iMu ?_; refine S.mapU ?_) | refine svz ⟨fun b hq => ?_⟩ | refine sv1 ?_ | refine svs ⟨?_⟩ | refine svu ⟨fun u => ?_⟩ | (refine svg (fun hg => ?_) (fun hg => ?_) <;> try (exfalso; first | omega | contradiction)) | (refine svc (fun hc => ?_) (fun hc => ?_) <;> try (exfalso; first | omega | contradiction)) | refine sv2 ?_ | refine svh (fun hb => ?_) (fun hb => ?_) | refine svb (fun b => ?_) | refine sva ?_ | refine sv3 ?_))
        subst hR
        exact fin_r (h' := h) ⟨rfl, rfl⟩
  · refine W.le (s' := ⟨68, [(38, .val (.int .i64 (2))), (37, .val (.int .i64 (5))), (36, .ro 3 [.agg [.val (.func (.func 40) #[] #[]), .val (.int .i64 (10)), .val (.func (.func 46) #[] #[])], .agg [.val (.func (.func 47) #[] #[]), .val (.int .i64 (1)), .val (.func (.func 48) #[] #[])], .agg [.val (.func (.func 47) #[] #[]), .val (.int .i64 (1)), .val (.func (.func 49) #[] #[])], .agg [.val (.func (.func 47) #[] #[]), .val (.int .i64 (1)), .val (.func (.func 50) #[] #[])], .agg [.val (.func (.func 51) #[] #[]), .val (.int .i64 (1)), .val (.func (.func 52) #[] #[])]]), (10, .val (.pointer (some ⟨b10, 0, none⟩))), (6, .val (.pointer (some ⟨b6, 0, none⟩))), (3, .val (.pointer (some ⟨b3, 0, none⟩))), (1, .val (.int .i64 (m))), (2, .ro 1 (ints .i64 [n0, n1, n2, n3, n4]))], .box b10 [.val (.int .i64 (q.fn)), .val (.int .u8 (q.pl)), .val (.int .u8 (q.fo)), .val (.int .u8 (q.ba)), .val (.int .u32 q.ft), .val (.int .i64 (q.x)), .val (.int .i64 (q.y)), .val (.bool q.cl), .ro 4 (q.clip.map RC.enc)] 27 :: .box b6 [.val (.int .i64 (0)), .val (.int .u8 (0)), .val (.int .u8 (0)), .val (.int .u8 (0)), .val (.int .u32 0), .val (.int .i64 (0)), .val (.int .i64 (0)), .val (.bool false), .val (.slice none 0 0)] 27 :: .box b3 [.val (.int .i64 (p.fn)), .val (.int .u8 (p.pl)), .val (.int .u8 (p.fo)), .val (.int .u8 (p.ba)), .val (.int .u32 p.ft), .val (.int .i64 (p.x)), .val (.int .i64 (p.y)), .val (.bool p.cl), .ro 4 (p.clip.map RC.enc)] 27 :: h⟩) lee ?_
    have hbit := and_bit (m := m) (i := 2) hm (by omega)
    have ho := okN_put m [n0, n1, n2, n3, n4] 2
    (repeat' (first | (refine iS ?_; refine iMu ?_; refine S.mapU ?_) | refine svz ⟨fun b hq => ?_⟩ | refine sv1 ?_ | refine svs ⟨?_⟩ | refine svu ⟨fun u => ?_⟩ | (refine svg (fun hg => ?_) (fun hg => ?_) <;> try (exfalso; first | omega | contradiction)) | (refine svc (fun hc => ?_) (fun hc => ?_) <;> try (exfalso; first | omega | contradiction)) | refine sv2 ?_ | refine svh (fun hb => ?_) (fun hb => ?_) | refine svb (fun b => ?_) | refine sva ?_ | refine sv3 ?_))
    · have hz := hbit.1 hc
      rw [hz] at hs ho
      subst hs
      exact ⟨3, ⟨by omega, okS hI (ho.2 (fun q => by cases q))⟩, by rw [show putC m [n0, n1, n2, n3, n4] p 3 = _ from hq1]; exact lee, by omega⟩
    · have hz : bitM m 2 = true := by
        cases e : bitM m 2 with
        | true => rfl
        | false => exact absurd (hbit.2 e) hc
      rw [hz] at hs ho
      rw [if_pos rfl] at hs
      have cf := fun h => ispixel_c n2 h
      by_cases hv : okC 2 n2 = true
      · have hv2 := of_decide_eq_true hv
        rw [decide_eq_true hv2] at cf
        refine R2.Cv (.fn 47) (cf _) ?_
        (repeat' ((fail_if_success (refine drg ?_)); (first | (refine iS ?_; refine iMu ?_; refine S.mapU ?_) | refine svz ⟨fun b hq => ?_⟩ | refine sv1 ?_ | refine svs ⟨?_⟩ | refine svu ⟨fun u => ?_⟩ | (refine svg (fun hg => ?_) (fun hg => ?_) <;> try (exfalso; first | omega | contradiction)) | (refine svc (fun hc => ?_) (fun hc => ?_) <;> try (exfalso; first | omega | contradiction)) | refine sv2 ?_ | refine svh (fun hb => ?_) (fun hb => ?_) | refine svb (fun b => ?_) | refine sva ?_ | refine sv3 ?_)))
        refine W.dr (.ro (.rw (.ro (.ro (.done _))))) ?_
        (repeat' (first | (refine iS ?_; refine iMu ?_; refine S.mapU ?_) | refine svz ⟨fun b hq => ?_⟩ | refine sv1 ?_ | refine svs ⟨?_⟩ | refine svu ⟨fun u => ?_⟩ | (refine svg (fun hg => ?_) (fun hg => ?_) <;> try (exfalso; first | omega | contradiction)) | (refine svc (fun hc => ?_) (fun hc => ?_) <;> try (exfalso; first | omega | contradiction)) | refine sv2 ?_ | refine svh (fun hb => ?_) (fun hb => ?_) | refine svb (fun b => ?_) | refine sva ?_ | refine sv3 ?_))
        refine R2.B ?_
        refine S.callv (.fn 49) ?_
        refine (set2_c q b10 n2 _ hv2).mono ?_
        rintro r h' ⟨rfl, hh⟩; subst hh
        refine kd ?_
        (repeat' (first | (refine iS ?_; refine iMu ?_; refine S.mapU ?_) | refine svz ⟨fun b hq => ?_⟩ | refine sv1 ?_ | refine svs ⟨?_⟩ | refine svu ⟨fun u => ?_⟩ | (refine svg (fun hg => ?_) (fun hg => ?_) <;> try (exfalso; first | omega | contradiction)) | (refine svc (fun hc => ?_) (fun hc => ?_) <;> try (exfalso; first | omega | contradiction)) | refine sv2 ?_ | refine svh (fun hb => ?_) (fun hb => ?_) | refine svb (fun b => ?_) | refine sva ?_ | refine sv3 ?_))
        subst hs
        exact ⟨3, ⟨by omega, okS hI (ho.2 (fun _ => hv))⟩, by rw [show putC m [n0, n1, n2, n3, n4] p 3 = _ from hq1]; exact lee, by omega⟩
      · have hv2 : okC 2 n2 = false := by simpa using hv
        have hR := hbad (by cases e : okN m [n0, n1, n2, n3, n4] 2 with
          | false => rfl
          | true => exact absurd (ho.1 e rfl) hv) (by omega)
        have hv3 := of_decide_eq_false hv2
        rw [decide_eq_false hv3] at cf
        refine R2.Cv (.fn 47) (cf _) ?_
        (repeat' ((fail_if_success (refine drg ?_)); (first | (refine iS ?_; refine iMu ?_; refine S.mapU ?_) | refine svz ⟨fun b hq => ?_⟩ | refine sv1 ?_ | refine svs ⟨?_⟩ | refine svu ⟨fun u => ?_⟩ | (refine svg (fun hg => ?_) (fun hg => ?_) <;> try (exfalso; first | omega | contradiction)) | (refine svc (fun hc => ?_) (fun hc => ?_) <;> try (exfalso; first | omega | contradiction)) | refine sv2 ?_ | refine svh (fun hb => ?_) (fun hb => ?_) | refine svb (fun b => ?_) | refine sva ?_ | refine sv3 ?_)))
        refine W.dr (.ro (.ro (.rw (.ro (.done _))))) ?_
        (repeat' (first | (refine iS ?_; refine iMu ?_; refine S.mapU ?_) | refine svz ⟨fun b hq => ?_⟩ | refine sv1 ?_ | refine svs ⟨?_⟩ | refine svu ⟨fun u => ?_⟩ | (refine svg (fun hg => ?_) (fun hg => ?_) <;> try (exfalso; first | omega | contradiction)) | (refine svc (fun hc => ?_) (fun hc => ?_) <;> try (exfalso; first | omega | contradiction)) | refine sv2 ?_ | refine svh (fun hb => ?_) (fun hb => ?_) | refine svb (fun b => ?_) | refine sva ?_ | refine sv3 ?_))
        subst hR
        exact fin_r (h' := h) ⟨rfl, rfl⟩
  · refine W.le (s' := ⟨68, [(38, .val (.int .i64 (3))), (37, .val (.int .i64 (5))), (36, .ro 3 [.agg [.val (.func (.func 40) #[] #[]), .val (.int .i64 (10)), .val (.func (.func 46) #[] #[])], .agg [.val (.func (.func 47) #[] #[]), .val (.int .i64 (1)), .val (.func (.func 48) #[] #[])], .agg [.val (.func (.func 47) #[] #[]), .val (.int .i64 (1)), .val (.func (.func 49) #[] #[])], .agg [.val (.func (.func 47) #[] #[]), .val (.int .i64 (1)), .val (.func (.func 50) #[] #[])], .agg [.val (.func (.func 51) #[] #[]), .val (.int .i64 (1)), .val (.func (.func 52) #[] #[])]]), (10, .val (.pointer (some ⟨b10, 0, none⟩))), (6, .val (.pointer (some ⟨b6, 0, none⟩))), (3, .val (.pointer (some ⟨b3, 0, none⟩))), (1, .val (.int .i64 (m))), (2, .ro 1 (ints .i64 [n0, n1, n2, n3, n4]))], .box b10 [.val (.int .i64 (q.fn)), .val (.int .u8 (q.pl)), .val (.int .u8 (q.fo)), .val (.int .u8 (q.ba)), .val (.int .u32 q.ft), .val (.int .i64 (q.x)), .val (.int .i64 (q.y)), .val (.bool q.cl), .ro 4 (q.clip.map RC.enc)] 27 :: .box b6 [.val (.int .i64 (0)), .val (.int .u8 (0)), .val (.int .u8 (0)), .val (.int .u8 (0)), .val (.int .u32 0), .val (.int .i64 (0)), .val (.int .i64 (0)), .val (.bool false), .val (.slice none 0 0)] 27 :: .box b3 [.val (.int .i64 (p.fn)), .val (.int .u8 (p.pl)), .val (.int .u8 (p.fo)), .val (.int .u8 (p.ba)), .val (.int .u32 p.ft), .val (.int .i64 (p.x)), .val (.int .i64 (p.y)), .val (.bool p.cl), .ro 4 (p.clip.map RC.enc)] 27 :: h⟩) lee ?_
    have hbit := and_bit (m := m) (i := 3) hm (by omega)
    have ho := okN_put m [n0, n1, n2, n3, n4] 3
    (repeat' (first | (refine iS ?_; refine iMu ?_; refine S.mapU ?_) | refine svz ⟨fun b hq => ?_⟩ | refine sv1 ?_ | refine svs ⟨?_⟩ | refine svu ⟨fun u => ?_⟩ | (refine svg (fun hg => ?_) (fun hg => ?_) <;> try (exfalso; first | omega | contradiction)) | (refine svc (fun hc => ?_) (fun hc => ?_) <;> try (exfalso; first | omega | contradiction)) | refine sv2 ?_ | refine svh (fun hb => ?_) (fun hb => ?_) | refine svb (fun b => ?_) | refine sva ?_ | refine sv3 ?_))
    · have hz := hbit.1 hc
      rw [hz] at hs ho
      subst hs
      exact ⟨4, ⟨by omega, okS hI (ho.2 (fun q => by cases q))⟩, by rw [show putC m [n0, n1, n2, n3, n4] p 4 = _ from hq1]; exact lee, by omega⟩
    · have hz : bitM m 3 = true := by
        cases e : bitM m 3 with
        | true => rfl
        | false => exact absurd (hbit.2 e) hc
      rw [hz] at hs ho
      rw [if_pos rfl] at hs
      have cf := fun h => ispixel_c n3 h
      by_cases hv : okC 3 n3 = true
      · have hv2 := of_decide_eq_true hv
        rw [decide_eq_true hv2] at cf
        refine R2.Cv (.fn 47) (cf _) ?_
        (repeat' ((fail_if_success (refine drg ?_)); (first | (refine iS ?_; refine iMu ?_; refine S.mapU ?_) | refine svz ⟨fun b hq => ?_⟩ | refine sv1 ?_ | refine svs ⟨?_⟩ | refine svu ⟨fun u => ?_⟩ | (refine svg (fun hg => ?_) (fun hg => ?_) <;> try (exfalso; first | omega | contradiction)) | (refine svc (fun hc => ?_) (fun hc => ?_) <;> try (exfalso; first | omega | contradiction)) | refine sv2 ?_ | refine svh (fun hb => ?_) (fun hb => ?_) | refine svb (fun b => ?_) | refine sva ?_ | refine sv3 ?_)))
        refine W.dr (.ro (.rw (.ro (.ro (.done _))))) ?_
        (repeat' (first | (refine iS ?_; refine iMu ?_; refine S.mapU ?_) | refine svz ⟨fun b hq => ?_⟩ | refine sv1 ?_ | refine svs ⟨?_⟩ | refine svu ⟨fun u => ?_⟩ | (refine svg (fun hg => ?_) (fun hg => ?_) <;> try (exfalso; first | omega | contradiction)) | (refine svc (fun hc => ?_) (fun hc => ?_) <;> try (exfalso; first | omega | contradiction)) | refine sv2 ?_ | refine svh (fun hb => ?_) (fun hb => ?_) | refine svb (fun b => ?_) | refine sva ?_ | refine sv3 ?_))
        refine R2.B ?_
        refine S.callv (.fn 50) ?_
        refine (set3_c q b10 n3 _ hv2).mono ?_
        rintro r h' ⟨rfl, hh⟩; subst hh
        refine kd ?_
        (repeat' (first | (refine iS ?_; refine iMu ?_; refine S.mapU ?_) | refine svz ⟨fun b hq => ?_⟩ | refine sv1 ?_ | refine svs ⟨?_⟩ | refine svu ⟨fun u => ?_⟩ | (refine svg (fun hg => ?_) (fun hg => ?_) <;> try (exfalso; first | omega | contradiction)) | (refine svc (fun hc => ?_) (fun hc => ?_) <;> try (exfalso; first | omega | contradiction)) | refine sv2 ?_ | refine svh (fun hb => ?_) (fun hb => ?_) | refine svb (fun b => ?_) | refine sva ?_ | refine sv3 ?_))
        subst hs
        exact ⟨4, ⟨by omega, okS hI (ho.2 (fun _ => hv))⟩, by rw [show putC m [n0, n1, n2, n3, n4] p 4 = _ from hq1]; exact lee, by omega⟩
      · have hv2 : okC 3 n3 = false := by simpa using hv
        have hR := hbad (by cases e : okN m [n0, n1, n2, n3, n4] 3 with
          | false => rfl
          | true => exact absurd (ho.1 e rfl) hv) (by omega)
        have hv3 := of_decide_eq_false hv2
        rw [decide_eq_false hv3] at cf
        refine R2.Cv (.fn 47) (cf _) ?_
        (repeat' ((fail_if_success (refine drg ?_)); (first | (refine iS ?_; refine iMu ?_; refine S.mapU ?_) | refine svz ⟨fun b hq => ?_⟩ | refine sv1 ?_ | refine svs ⟨?_⟩ | refine svu ⟨fun u => ?_⟩ | (refine svg (fun hg => ?_) (fun hg => ?_) <;> try (exfalso; first | omega | contradiction)) | (refine svc (fun hc => ?_) (fun hc => ?_) <;> try (exfalso; first | omega | contradiction)) | refine sv2 ?_ | refine svh (fun hb => ?_) (fun hb => ?_) | refine svb (fun b => ?_) | refine sva ?_ | refine sv3 ?_)))
        refine W.dr (.ro (.ro (.rw (.ro (.done _))))) ?_
        (repeat' (first | (refine iS ?_; refine iMu ?_; refine S.mapU ?_) | refine svz ⟨fun b hq => ?_⟩ | refine sv1 ?_ | refine svs ⟨?_⟩ | refine svu ⟨fun u => ?_⟩ | (refine svg (fun hg => ?_) (fun hg => ?_) <;> try (exfalso; first | omega | contradiction)) | (refine svc (fun hc => ?_) (fun hc => ?_) <;> try (exfalso; first | omega | contradiction)) | refine sv2 ?_ | refine svh (fun hb => ?_) (fun hb => ?_) | refine svb (fun b => ?_) | refine sva ?_ | refine sv3 ?_))
        subst hR
        exact fin_r (h' := h) ⟨rfl, rfl⟩
  · refine W.le (s' := ⟨68, [(38, .val (.int .i64 (4))), (37, .val (.int .i64 (5))), (36, .ro 3 [.agg [.val (.func (.func 40) #[] #[]), .val (.int .i64 (10)), .val (.func (.func 46) #[] #[])], .agg [.val (.func (.func 47) #[] #[]), .val (.int .i64 (1)), .val (.func (.func 48) #[] #[])], .agg [.val (.func (.func 47) #[] #[]), .val (.int .i64 (1)), .val (.func (.func 49) #[] #[])], .agg [.val (.func (.func 47) #[] #[]), .val (.int .i64 (1)), .val (.func (.func 50) #[] #[])], .agg [.val (.func (.func 51) #[] #[]), .val (.int .i64 (1)), .val (.func (.func 52) #[] #[])]]), (10, .val (.pointer (some ⟨b10, 0, none⟩))), (6, .val (.pointer (some ⟨b6, 0, none⟩))), (3, .val (.pointer (some ⟨b3, 0, none⟩))), (1, .val (.int .i64 (m))), (2, .ro 1 (ints .i64 [n0, n1, n2, n3, n4]))], .box b10 [.val (.int .i64 (q.fn)), .val (.int .u8 (q.pl)), .val (.int .u8 (q.fo)), .val (.int .u8 (q.ba)), .val (.int .u32 q.ft), .val (.int .i64 (q.x)), .val (.int .i64 (q.y)), .val (.bool q.cl), .ro 4 (q.clip.map RC.enc)] 27 :: .box b6 [.val (.int .i64 (0)), .val (.int .u8 (0)), .val (.int .u8 (0)), .val (.int .u8 (0)), .val (.int .u32 0), .val (.int .i64 (0)), .val (.int .i64 (0)), .val (.bool false), .val (.slice none 0 0)] 27 :: .box b3 [.val (.int .i64 (p.fn)), .val (.int .u8 (p.pl)), .val (.int .u8 (p.fo)), .val (.int .u8 (p.ba)), .val (.int .u32 p.ft), .val (.int .i64 (p.x)), .val (.int .i64 (p.y)), .val (.bool p.cl), .ro 4 (p.clip.map RC.enc)] 27 :: h⟩) lee ?_
    have hbit := and_bit (m := m) (i := 4) hm (by omega)
    have ho := okN_put m [n0, n1, n2, n3, n4] 4
    (repeat' (first | (refine iS ?_; refine iMu ?_; refine S.mapU ?_) | refine svz ⟨fun b hq => ?_⟩ | refine sv1 ?_ | refine svs ⟨?_⟩ | refine svu ⟨fun u => ?_⟩ | (refine svg (fun hg => ?_) (fun hg => ?_) <;> try (exfalso; first | omega | contradiction)) | (refine svc (fun hc => ?_) (fun hc => ?_) <;> try (exfalso; first | omega | contradiction)) | refine sv2 ?_ | refine svh (fun hb => ?_) (fun hb => ?_) | refine svb (fun b => ?_) | refine sva ?_ | refine sv3 ?_))
    · have hz := hbit.1 hc
      rw [hz] at hs ho
      subst hs
      exact ⟨5, ⟨by omega, okS hI (ho.2 (fun q => by cases q))⟩, by rw [show putC m [n0, n1, n2, n3, n4] p 5 = _ from hq1]; exact lee, by omega⟩
    · have hz : bitM m 4 = true := by
        cases e : bitM m 4 with
        | true => rfl
        | false => exact absurd (hbit.2 e) hc
      rw [hz] at hs ho
      rw [if_pos rfl] at hs
      have cf := fun h => isid_c n4 h
      by_cases hv : okC 4 n4 = true
      · have hv2 := of_decide_eq_true hv
        rw [decide_eq_true hv2] at cf
        refine R2.Cv (.fn 51) (cf _) ?_
        (repeat' ((fail_if_success (refine drg ?_)); (first | (refine iS ?_; refine iMu ?_; refine S.mapU ?_) | refine svz ⟨fun b hq => ?_⟩ | refine sv1 ?_ | refine svs ⟨?_⟩ | refine svu ⟨fun u => ?_⟩ | (refine svg (fun hg => ?_) (fun hg => ?_) <;> try (exfalso; first | omega | contradiction)) | (refine svc (fun hc => ?_) (fun hc => ?_) <;> try (exfalso; first | omega | contradiction)) | refine sv2 ?_ | refine svh (fun hb => ?_) (fun hb => ?_) | refine svb (fun b => ?_) | refine sva ?_ | refine sv3 ?_)))
        refine W.dr (.ro (.rw (.ro (.ro (.done _))))) ?_
        (repeat' (first | (refine iS ?_; refine iMu ?_; refine S.mapU ?_) | refine svz ⟨fun b hq => ?_⟩ | refine sv1 ?_ | refine svs ⟨?_⟩ | refine svu ⟨fun u => ?_⟩ | (refine svg (fun hg => ?_) (fun hg => ?_) <;> try (exfalso; first | omega | contradiction)) | (refine svc (fun hc => ?_) (fun hc => ?_) <;> try (exfalso; first | omega | contradiction)) | refine sv2 ?_ | refine svh (fun hb => ?_) (fun hb => ?_) | refine svb (fun b => ?_) | refine sva ?_ | refine sv3 ?_))
        refine R2.B ?_
        refine S.callv (.fn 52) ?_
        refine (set4_c q b10 n4 _ hv2).mono ?_
        rintro r h' ⟨rfl, hh⟩; subst hh
        refine kd ?_
        (repeat' (first | (refine iS ?_; refine iMu ?_; refine S.mapU ?_) | refine svz ⟨fun b hq => ?_⟩ | refine sv1 ?_ | refine svs ⟨?_⟩ | refine svu ⟨fun u => ?_⟩ | (refine svg (fun hg => ?_) (fun hg => ?_) <;> try (exfalso; first | omega | contradiction)) | (refine svc (fun hc => ?_) (fun hc => ?_) <;> try (exfalso; first | omega | contradiction)) | refine sv2 ?_ | refine svh (fun hb => ?_) (fun hb => ?_) | refine svb (fun b => ?_) | refine sva ?_ | refine sv3 ?_))
        subst hs
        exact ⟨5, ⟨by omega, okS hI (ho.2 (fun _ => hv))⟩, by rw [show putC m [n0, n1, n2, n3, n4] p 5 = _ from hq1]; exact lee, by omega⟩
      · have hv2 : okC 4 n4 = false := by simpa using hv
        have hR := hbad (by cases e : okN m [n0, n1, n2, n3, n4] 4 with
          | false => rfl
          | true => exact absurd (ho.1 e rfl) hv) (by omega)
        have hv3 := of_decide_eq_false hv2
        rw [decide_eq_false hv3] at cf
        refine R2.Cv (.fn 51) (cf _) ?_
        (repeat' ((fail_if_success (refine drg ?_)); (first | (refine iS ?_; refine iMu ?_; refine S.mapU ?_) | refine svz ⟨fun b hq => ?_⟩ | refine sv1 ?_ | refine svs ⟨?_⟩ | refine svu ⟨fun u => ?_⟩ | (refine svg (fun hg => ?_) (fun hg => ?_) <;> try (exfalso; first | omega | contradiction)) | (refine svc (fun hc => ?_) (fun hc => ?_) <;> try (exfalso; first | omega | contradiction)) | refine sv2 ?_ | refine svh (fun hb => ?_) (fun hb => ?_) | refine svb (fun b => ?_) | refine sva ?_ | refine sv3 ?_)))
        refine W.dr (.ro (.ro (.rw (.ro (.done _))))) ?_
        (repeat' (first | (refine iS ?_; refine iMu ?_; refine S.mapU ?_) | refine svz ⟨fun b hq => ?_⟩ | refine sv1 ?_ | refine svs ⟨?_⟩ | refine svu ⟨fun u => ?_⟩ | (refine svg (fun hg => ?_) (fun hg => ?_) <;> try (exfalso; first | omega | contradiction)) | (refine svc (fun hc => ?_) (fun hc => ?_) <;> try (exfalso; first | omega | contradiction)) | refine sv2 ?_ | refine svh (fun hb => ?_) (fun hb => ?_) | refine svb (fun b => ?_) | refine sva ?_ | refine sv3 ?_))
        subst hR
        exact fin_r (h' := h) ⟨rfl, rfl⟩
  · have hR := hfin rfl
    subst hR
    refine W.le (s' := ⟨68, [(38, .val (.int .i64 (5))), (37, .val (.int .i64 (5))), (36, .ro 3 [.agg [.val (.func (.func 40) #[] #[]), .val (.int .i64 (10)), .val (.func (.func 46) #[] #[])], .agg [.val (.func (.func 47) #[] #[]), .val (.int .i64 (1)), .val (.func (.func 48) #[] #[])], .agg [.val (.func (.func 47) #[] #[]), .val (.int .i64 (1)), .val (.func (.func 49) #[] #[])], .agg [.val (.func (.func 47) #[] #[]), .val (.int .i64 (1)), .val (.func (.func 50) #[] #[])], .agg [.val (.func (.func 51) #[] #[]), .val (.int .i64 (1)), .val (.func (.func 52) #[] #[])]]), (10, .val (.pointer (some ⟨b10, 0, none⟩))), (6, .val (.pointer (some ⟨b6, 0, none⟩))), (3, .val (.pointer (some ⟨b3, 0, none⟩))), (1, .val (.int .i64 (m))), (2, .ro 1 (ints .i64 [n0, n1, n2, n3, n4]))], .box b10 [.val (.int .i64 (q.fn)), .val (.int .u8 (q.pl)), .val (.int .u8 (q.fo)), .val (.int .u8 (q.ba)), .val (.int .u32 q.ft), .val (.int .i64 (q.x)), .val (.int .i64 (q.y)), .val (.bool q.cl), .ro 4 (q.clip.map RC.enc)] 27 :: .box b6 [.val (.int .i64 (0)), .val (.int .u8 (0)), .val (.int .u8 (0)), .val (.int .u8 (0)), .val (.int .u32 0), .val (.int .i64 (0)), .val (.int .i64 (0)), .val (.bool false), .val (.slice none 0 0)] 27 :: .box b3 [.val (.int .i64 (p.fn)), .val (.int .u8 (p.pl)), .val (.int .u8 (p.fo)), .val (.int .u8 (p.ba)), .val (.int .u32 p.ft), .val (.int .i64 (p.x)), .val (.int .i64 (p.y)), .val (.bool p.cl), .ro 4 (p.clip.map RC.enc)] 27 :: h⟩) lee ?_
    (repeat' (first | (refine iS ?_; refine iMu ?_; refine S.mapU ?_) | refine svz ⟨fun b hq => ?_⟩ | refine sv1 ?_ | refine svs ⟨?_⟩ | refine svu ⟨fun u => ?_⟩ | (refine svg (fun hg => ?_) (fun hg => ?_) <;> try (exfalso; first | omega | contradiction)) | (refine svc (fun hc => ?_) (fun hc => ?_) <;> try (exfalso; first | omega | contradiction)) | refine sv2 ?_ | refine svh (fun hb => ?_) (fun hb => ?_) | refine svb (fun b => ?_) | refine sva ?_ | refine sv3 ?_))
    exact fin_r (h' := h) ⟨rfl, rfl⟩
end Go.Proofs.Ytmfbfbhkjclhkaa
