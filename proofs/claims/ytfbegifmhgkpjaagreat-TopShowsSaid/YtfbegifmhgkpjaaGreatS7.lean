import Derived.Test.YtfbegifmhgkpjaaGreatS6
import Derived.Test.YtfbegifmhgkpjaaGreatU3
namespace Go.Proofs.YtfbegifmhgkpjaaGreat
open Go Go.VM Go.Sort
attribute [local irreducible] PurV Pur Step RL W D ACalls Then InBlock Fini
set_option linter.unusedVariables false
set_option linter.unusedSimpArgs false
set_option maxHeartbeats 20000000
theorem bits_half {x : Nat} (h : 1 ≤ x) : bitsLen x = bitsLen (x / 2) + 1 := by
  unfold bitsLen
  rw [if_neg (by omega)]
  by_cases h2 : x / 2 = 0
  · rw [if_pos h2]
    have : x = 1 := by omega
    subst this; decide
  · rw [if_neg h2, Nat.log2_def, if_pos (by omega)]
theorem bits_shift : ∀ (k x : Nat), 2 ^ k ≤ x → bitsLen x = k + bitsLen (x / 2 ^ k)
  | 0, x, h => by simp
  | k + 1, x, h => by
    rw [Nat.pow_succ] at h
    have h1 : 1 ≤ x := by have := Nat.one_le_two_pow (n := k); omega
    rw [bits_half h1, bits_shift k (x / 2) (by omega), Nat.div_div_eq_div_mul, Nat.pow_succ, Nat.mul_comm]
    omega
theorem wrap_u64_r (a : Int) : 0 ≤ IntKind.u64.wrap a ∧ IntKind.u64.wrap a ≤ 18446744073709551615 := by
  simp [IntKind.wrap, IntKind.bits, IntKind.signed]; omega
theorem bitsI_u64 (op : BinOp) (a b : Int) : 0 ≤ bitsI op .u64 a b ∧ bitsI op .u64 a b ≤ 18446744073709551615 := wrap_u64_r _
set_option maxRecDepth 100000 in
theorem and_le (a b : Int) (hb : 0 ≤ b ∧ b ≤ 18446744073709551615) : 0 ≤ bitsI .and .u64 a b ∧ bitsI .and .u64 a b ≤ b := by
  refine ⟨(bitsI_u64 _ _ _).1, ?_⟩
  have h1 : ((BitVec.ofInt 64 a &&& BitVec.ofInt 64 b).toNat : Int) ≤ b := by
    rw [BitVec.toNat_and]
    have h2 : (BitVec.ofInt 64 b).toNat = b.toNat := by
      rw [BitVec.toNat_ofInt]
      congr 1
      exact Int.emod_eq_of_lt hb.1 (by omega)
    have := Nat.and_le_right (n := (BitVec.ofInt 64 a).toNat) (m := (BitVec.ofInt 64 b).toNat)
    rw [h2] at this ⊢
    omega
  have h0 : 0 ≤ ((BitVec.ofInt 64 a &&& BitVec.ofInt 64 b).toNat : Int) := Int.natCast_nonneg _
  show IntKind.u64.wrap ((BitVec.ofInt 64 a &&& BitVec.ofInt 64 b).toNat : Int) ≤ b
  rw [wrap_u64 h0 (by omega)]
  exact h1
set_option maxRecDepth 100000 in
theorem fd8 (x : Nat) : Int.fdiv (x : Int) (2 ^ min (Int.toNat 8) (IntKind.bits .u64)) = ((x / 256 : Nat) : Int) := by
  rw [show (2 : Int) ^ min (Int.toNat 8) (IntKind.bits .u64) = 256 by decide, Int.fdiv_eq_ediv_of_nonneg _ (by decide)]; omega
set_option maxRecDepth 100000 in
theorem fd16 (x : Nat) : Int.fdiv (x : Int) (2 ^ min (Int.toNat 16) (IntKind.bits .u64)) = ((x / 65536 : Nat) : Int) := by
  rw [show (2 : Int) ^ min (Int.toNat 16) (IntKind.bits .u64) = 65536 by decide, Int.fdiv_eq_ediv_of_nonneg _ (by decide)]; omega
set_option maxRecDepth 100000 in
theorem l64_c (x : Nat) (h : Heap) (hx : x < 1048576) : ACalls Tryz.prog 137 [.val (.int .u64 (x : Int))] h (fun r h' => r = .val (.int .i64 (bitsLen x : Nat)) ∧ h' = h) := by
  refine ACalls.intro Tryz.func137 rfl Tryz.ntmps137 Tryz.results137 (Nat.le_of_ble_eq_true rfl) ?_
  have hb0 : bitsLen x ≤ 20 := (bitsLen_le_iff _ _).2 (by omega)
  rcases Nat.lt_or_ge x 256 with h2 | h2
  · (repeat' (first|refine svz ⟨fun b hq=>?_⟩|refine svW ⟨?_⟩|refine svu ⟨fun u=>?_⟩|(refine svG (fun hc=>?_) (fun hc=>?_)<;>try exact svx)|refine svh (fun hb=>?_) (fun hb=>?_)|refine svb (fun b=>?_)|fail))
    refine S.istr (i := (x : Int)) 256 bitsLen ?_ (by omega)
    (repeat' (first|refine svz ⟨fun b hq=>?_⟩|refine svW ⟨?_⟩|refine svu ⟨fun u=>?_⟩|(refine svG (fun hc=>?_) (fun hc=>?_)<;>try exact svx)|refine svh (fun hb=>?_) (fun hb=>?_)|refine svb (fun b=>?_)|fail))
    refine fin_r (h' := h) ⟨?_, rfl⟩
    simp [tupA]
    rw [wrap_i64 (a := ((bitsLen x : Nat) : Int)) (by omega) (by omega), wrap_i64 (by omega) (by omega)]
  rcases Nat.lt_or_ge x 65536 with h3 | h3
  · (repeat' (first|refine svz ⟨fun b hq=>?_⟩|refine svW ⟨?_⟩|refine svu ⟨fun u=>?_⟩|(refine svG (fun hc=>?_) (fun hc=>?_)<;>try exact svx)|refine svh (fun hb=>?_) (fun hb=>?_)|refine svb (fun b=>?_)|fail))
    rw [fd8, wrap_u8 (a := ((x / 256 : Nat) : Int)) (by omega) (by omega)]
    refine S.istr (i := ((x / 256 : Nat) : Int)) 256 bitsLen ?_ (by omega)
    have hb := bits_shift 8 x (by omega)
    have hb2 : bitsLen (x / 256) ≤ 64 := (bitsLen_le_iff _ _).2 (by omega)
    have e1 : ((x / 256 : Nat) : Int).toNat = x / 256 := by omega
    rw [e1]
    (repeat' (first|refine svz ⟨fun b hq=>?_⟩|refine svW ⟨?_⟩|refine svu ⟨fun u=>?_⟩|(refine svG (fun hc=>?_) (fun hc=>?_)<;>try exact svx)|refine svh (fun hb=>?_) (fun hb=>?_)|refine svb (fun b=>?_)|fail))
    refine fin_r (h' := h) ⟨?_, rfl⟩
    simp only [tupA]
    rw [hb]
    congr 2
  · (repeat' (first|refine svz ⟨fun b hq=>?_⟩|refine svW ⟨?_⟩|refine svu ⟨fun u=>?_⟩|(refine svG (fun hc=>?_) (fun hc=>?_)<;>try exact svx)|refine svh (fun hb=>?_) (fun hb=>?_)|refine svb (fun b=>?_)|fail))
    · exfalso
      rename_i hc
      rw [fd16] at hc
      omega
    rw [fd16, wrap_u8 (a := ((x / 65536 : Nat) : Int)) (by omega) (by omega)]
    refine S.istr (i := ((x / 65536 : Nat) : Int)) 256 bitsLen ?_ (by omega)
    have hb := bits_shift 16 x (by omega)
    have hb2 : bitsLen (x / 65536) ≤ 64 := (bitsLen_le_iff _ _).2 (by omega)
    have e1 : ((x / 65536 : Nat) : Int).toNat = x / 65536 := by omega
    rw [e1]
    (repeat' (first|refine svz ⟨fun b hq=>?_⟩|refine svW ⟨?_⟩|refine svu ⟨fun u=>?_⟩|(refine svG (fun hc=>?_) (fun hc=>?_)<;>try exact svx)|refine svh (fun hb=>?_) (fun hb=>?_)|refine svb (fun b=>?_)|fail))
    refine fin_r (h' := h) ⟨?_, rfl⟩
    simp only [tupA]
    rw [hb]
    congr 2
theorem bitsLen_64 {x : Nat} (hx : x < 1048576) : bitsLen x ≤ 20 := (bitsLen_le_iff _ _).2 (by omega)
set_option maxRecDepth 100000 in
theorem len_c (x : Nat) (h : Heap) (hx : x < 1048576) : ACalls Tryz.prog 109 [.val (.int .u64 (x : Int))] h (fun r h' => r = .val (.int .i64 (bitsLen x : Nat)) ∧ h' = h) := by
  refine ACalls.intro Tryz.func109 rfl Tryz.ntmps109 Tryz.results109 (Nat.le_of_ble_eq_true rfl) ?_
  (repeat' (first|refine svz ⟨fun b hq=>?_⟩|refine svW ⟨?_⟩|refine svu ⟨fun u=>?_⟩|(refine svG (fun hc=>?_) (fun hc=>?_)<;>try exact svx)|refine svh (fun hb=>?_) (fun hb=>?_)|refine svb (fun b=>?_)|fail))
  refine S.call ?_
  refine (l64_c x _ hx).mono ?_
  rintro r h' ⟨rfl, rfl⟩
  (repeat' (first|refine svz ⟨fun b hq=>?_⟩|refine svW ⟨?_⟩|refine svu ⟨fun u=>?_⟩|(refine svG (fun hc=>?_) (fun hc=>?_)<;>try exact svx)|refine svh (fun hb=>?_) (fun hb=>?_)|refine svb (fun b=>?_)|fail))
  exact fin_r (h' := h') ⟨rfl, rfl⟩
set_option maxRecDepth 100000 in
theorem pow_c (x : Nat) (h : Heap) (hx : x < 1048576) : ACalls Tryz.prog 141 [.val (.int .i64 (x : Int))] h (fun r h' => r = .val (.int .u64 ((2 ^ bitsLen x : Nat) : Int)) ∧ h' = h) := by
  have h16 := bitsLen_64 hx
  refine ACalls.intro Tryz.func141 rfl Tryz.ntmps141 Tryz.results141 (Nat.le_of_ble_eq_true rfl) ?_
  (repeat' (first|refine svz ⟨fun b hq=>?_⟩|refine svW ⟨?_⟩|refine svu ⟨fun u=>?_⟩|(refine svG (fun hc=>?_) (fun hc=>?_)<;>try exact svx)|refine svh (fun hb=>?_) (fun hb=>?_)|refine svb (fun b=>?_)|fail))
  refine S.call ?_
  refine (len_c x _ hx).mono ?_
  rintro r h' ⟨rfl, rfl⟩
  (repeat' (first|refine svz ⟨fun b hq=>?_⟩|refine svW ⟨?_⟩|refine svu ⟨fun u=>?_⟩|(refine svG (fun hc=>?_) (fun hc=>?_)<;>try exact svx)|refine svh (fun hb=>?_) (fun hb=>?_)|refine svb (fun b=>?_)|fail))
  refine fin_r (h' := h') ⟨?_, rfl⟩
  simp only [tupA]
  have hm : min (bitsLen x) 64 = bitsLen x := by omega
  have hp : 2 ^ bitsLen x ≤ 2 ^ 20 := Nat.pow_le_pow_right (by omega) h16
  have h4 : ((2 : Int) ^ bitsLen x) = ((2 ^ bitsLen x : Nat) : Int) := by simp
  have h5 : 2 ^ 20 = 1048576 := by decide
  have h3 : IntKind.u64.wrap (1 * 2 ^ min ((bitsLen x : Nat) : Int).toNat (IntKind.bits .u64)) = ((2 ^ bitsLen x : Nat) : Int) := by
    rw [Int.toNat_natCast, show IntKind.bits .u64 = 64 from rfl, hm, Int.one_mul, h4]
    generalize 2 ^ bitsLen x = y at *
    exact wrap_u64 (by omega) (by omega)
  rw [h3]
set_option maxRecDepth 100000 in
theorem next_c (b : Nat) (r : Int) (h : Heap) : ACalls Tryz.prog 142 [.val (.pointer (some ⟨b, 0, none⟩))] (.box b [.val (.int .u64 r)] 222 :: h) (fun v h' => ∃ r' : Int, v = .val (.int .u64 r') ∧ h' = .box b [.val (.int .u64 r')] 222 :: h) := by
  refine ACalls.intro Tryz.func142 rfl Tryz.ntmps142 Tryz.results142 (Nat.le_of_ble_eq_true rfl) ?_
  (repeat' (first|refine svz ⟨fun b hq=>?_⟩|refine svW ⟨?_⟩|refine svu ⟨fun u=>?_⟩|(refine svG (fun hc=>?_) (fun hc=>?_)<;>try exact svx)|refine svh (fun hb=>?_) (fun hb=>?_)|refine svb (fun b=>?_)|fail))
  refine W.midB (J := fun r' : Int => ⟨33, [(2, .val (.int .u64 0)), (0, .val (.pointer (some ⟨b, 0, none⟩)))], .box b [.val (.int .u64 r')] 222 :: h⟩) (Φ := fun _ => True) inT ?_ ?_; ((repeat' (first | (refine iR ?_; refine RL.gu rfl rfl rfl rfl rfl ?_) | (refine iR ?_; first | refine RL.cons rfl ?_ | refine RL.nil ?_ | (refine RL.gt rfl rfl rfl rfl rfl (fun hg => ?_) (fun hg => ?_) <;> try (exfalso; first | omega | contradiction)) | (refine RL.gf rfl rfl rfl rfl rfl (fun hg => ?_) (fun hg => ?_) <;> try (exfalso; first | omega | contradiction)) | refine RL.ex rfl rfl rfl rfl rfl rfl ?_ | refine RL.sk rfl rfl rfl rfl rfl rfl ?_) | (refine iS ?_; first | (refine iZ ?_; refine S.nilq (fun b hq => ?_)) | (refine iL ?_; refine S.L ?_) | (refine iC ?_; first | refine S.append1 (fun u => ?_) | refine S.append (fun u => ?_) | refine S.append_nil (fun u => ?_)) | (refine iT ?_; first | refine S.store_one ?_ | refine S.store_whole ?_ | refine S.store_elem ?_ | refine S.store_field ?_) | (refine iA ?_; refine S.alloc (fun b => ?_)) | (refine iX ?_; refine S.box (fun b => ?_)) | (refine iN ?_; first | refine S.build1 (fun u => ?_) | refine S.build2 (fun u => ?_) | refine S.build3 (fun u => ?_) | refine S.build0 (fun u => ?_)) | (refine iK ?_; refine S.make (fun u => ?_)) | (refine iY ?_; refine S.copy ?_) | refine S.V ?_ | refine S.V3 ?_ | refine S.V2 ?_) | (refine iW ?_; first | refine W.rs ?_ | refine W.ss ?_ | refine W.assoc ?_ | (refine W.cd rfl (fun hc => ?_) (fun hc => ?_) <;> try (exfalso; first | omega | contradiction)) | refine W.region ?_ | refine W.skip ?_ | refine W.exit ?_ | refine W.ret ?_ | refine W.block ?_ | refine W.ct rfl ?_ | refine W.cf rfl ?_ | refine W.cond rfl (fun hb => ?_) (fun hb => ?_) | refine W.seq ?_) | refine thn ?_ | refine thx ?_ | refine thr ?_ | refine inh ?_ | refine inm rfl ?_ | refine inn ?_ | refine inr ?_ | refine kd ?_ | (refine iR2 ?_; first | refine R2.E ?_ | refine R2.T ?_ | refine R2.S ?_ | (refine r2e ?_; first | refine R2.B ?_ | refine R2.later ?_) | (refine r2w ?_; first | (try refine R2.melt ?_); first | refine R2.Bs ?_ | refine R2.B ?_ | refine R2.later ?_) | (refine r2l ?_; first | (refine R2.B ?_; refine S.L ?_) | refine R2.laterN ?_) | (refine R2.G (fun hg => ?_) (fun hg => ?_) <;> try (exfalso; first | omega | contradiction))) | (refine drg ?_; refine W.dr (by (repeat (apply Sel.ro)); exact Sel.done _) ?_))); exact ⟨_, trivial, lee⟩)
  rintro r1 _
  (repeat' (first|refine svz ⟨fun b hq=>?_⟩|refine svW ⟨?_⟩|refine svu ⟨fun u=>?_⟩|(refine svG (fun hc=>?_) (fun hc=>?_)<;>try exact svx)|refine svh (fun hb=>?_) (fun hb=>?_)|refine svb (fun b=>?_)|fail))
  refine W.midB (J := fun r' : Int => ⟨33, [(2, .val (.int .u64 0)), (0, .val (.pointer (some ⟨b, 0, none⟩)))], .box b [.val (.int .u64 r')] 222 :: h⟩) (Φ := fun _ => True) inT ?_ ?_; ((repeat' (first | (refine iR ?_; refine RL.gu rfl rfl rfl rfl rfl ?_) | (refine iR ?_; first | refine RL.cons rfl ?_ | refine RL.nil ?_ | (refine RL.gt rfl rfl rfl rfl rfl (fun hg => ?_) (fun hg => ?_) <;> try (exfalso; first | omega | contradiction)) | (refine RL.gf rfl rfl rfl rfl rfl (fun hg => ?_) (fun hg => ?_) <;> try (exfalso; first | omega | contradiction)) | refine RL.ex rfl rfl rfl rfl rfl rfl ?_ | refine RL.sk rfl rfl rfl rfl rfl rfl ?_) | (refine iS ?_; first | (refine iZ ?_; refine S.nilq (fun b hq => ?_)) | (refine iL ?_; refine S.L ?_) | (refine iC ?_; first | refine S.append1 (fun u => ?_) | refine S.append (fun u => ?_) | refine S.append_nil (fun u => ?_)) | (refine iT ?_; first | refine S.store_one ?_ | refine S.store_whole ?_ | refine S.store_elem ?_ | refine S.store_field ?_) | (refine iA ?_; refine S.alloc (fun b => ?_)) | (refine iX ?_; refine S.box (fun b => ?_)) | (refine iN ?_; first | refine S.build1 (fun u => ?_) | refine S.build2 (fun u => ?_) | refine S.build3 (fun u => ?_) | refine S.build0 (fun u => ?_)) | (refine iK ?_; refine S.make (fun u => ?_)) | (refine iY ?_; refine S.copy ?_) | refine S.V ?_ | refine S.V3 ?_ | refine S.V2 ?_) | (refine iW ?_; first | refine W.rs ?_ | refine W.ss ?_ | refine W.assoc ?_ | (refine W.cd rfl (fun hc => ?_) (fun hc => ?_) <;> try (exfalso; first | omega | contradiction)) | refine W.region ?_ | refine W.skip ?_ | refine W.exit ?_ | refine W.ret ?_ | refine W.block ?_ | refine W.ct rfl ?_ | refine W.cf rfl ?_ | refine W.cond rfl (fun hb => ?_) (fun hb => ?_) | refine W.seq ?_) | refine thn ?_ | refine thx ?_ | refine thr ?_ | refine inh ?_ | refine inm rfl ?_ | refine inn ?_ | refine inr ?_ | refine kd ?_ | (refine iR2 ?_; first | refine R2.E ?_ | refine R2.T ?_ | refine R2.S ?_ | (refine r2e ?_; first | refine R2.B ?_ | refine R2.later ?_) | (refine r2w ?_; first | (try refine R2.melt ?_); first | refine R2.Bs ?_ | refine R2.B ?_ | refine R2.later ?_) | (refine r2l ?_; first | (refine R2.B ?_; refine S.L ?_) | refine R2.laterN ?_) | (refine R2.G (fun hg => ?_) (fun hg => ?_) <;> try (exfalso; first | omega | contradiction))) | (refine drg ?_; refine W.dr (by (repeat (apply Sel.ro)); exact Sel.done _) ?_))); exact ⟨_, trivial, lee⟩)
  rintro r2 _
  (repeat' (first|refine svz ⟨fun b hq=>?_⟩|refine svW ⟨?_⟩|refine svu ⟨fun u=>?_⟩|(refine svG (fun hc=>?_) (fun hc=>?_)<;>try exact svx)|refine svh (fun hb=>?_) (fun hb=>?_)|refine svb (fun b=>?_)|fail))
  refine W.midB (J := fun r' : Int => ⟨33, [(2, .val (.int .u64 0)), (0, .val (.pointer (some ⟨b, 0, none⟩)))], .box b [.val (.int .u64 r')] 222 :: h⟩) (Φ := fun _ => True) inT ?_ ?_; ((repeat' (first | (refine iR ?_; refine RL.gu rfl rfl rfl rfl rfl ?_) | (refine iR ?_; first | refine RL.cons rfl ?_ | refine RL.nil ?_ | (refine RL.gt rfl rfl rfl rfl rfl (fun hg => ?_) (fun hg => ?_) <;> try (exfalso; first | omega | contradiction)) | (refine RL.gf rfl rfl rfl rfl rfl (fun hg => ?_) (fun hg => ?_) <;> try (exfalso; first | omega | contradiction)) | refine RL.ex rfl rfl rfl rfl rfl rfl ?_ | refine RL.sk rfl rfl rfl rfl rfl rfl ?_) | (refine iS ?_; first | (refine iZ ?_; refine S.nilq (fun b hq => ?_)) | (refine iL ?_; refine S.L ?_) | (refine iC ?_; first | refine S.append1 (fun u => ?_) | refine S.append (fun u => ?_) | refine S.append_nil (fun u => ?_)) | (refine iT ?_; first | refine S.store_one ?_ | refine S.store_whole ?_ | refine S.store_elem ?_ | refine S.store_field ?_) | (refine iA ?_; refine S.alloc (fun b => ?_)) | (refine iX ?_; refine S.box (fun b => ?_)) | (refine iN ?_; first | refine S.build1 (fun u => ?_) | refine S.build2 (fun u => ?_) | refine S.build3 (fun u => ?_) | refine S.build0 (fun u => ?_)) | (refine iK ?_; refine S.make (fun u => ?_)) | (refine iY ?_; refine S.copy ?_) | refine S.V ?_ | refine S.V3 ?_ | refine S.V2 ?_) | (refine iW ?_; first | refine W.rs ?_ | refine W.ss ?_ | refine W.assoc ?_ | (refine W.cd rfl (fun hc => ?_) (fun hc => ?_) <;> try (exfalso; first | omega | contradiction)) | refine W.region ?_ | refine W.skip ?_ | refine W.exit ?_ | refine W.ret ?_ | refine W.block ?_ | refine W.ct rfl ?_ | refine W.cf rfl ?_ | refine W.cond rfl (fun hb => ?_) (fun hb => ?_) | refine W.seq ?_) | refine thn ?_ | refine thx ?_ | refine thr ?_ | refine inh ?_ | refine inm rfl ?_ | refine inn ?_ | refine inr ?_ | refine kd ?_ | (refine iR2 ?_; first | refine R2.E ?_ | refine R2.T ?_ | refine R2.S ?_ | (refine r2e ?_; first | refine R2.B ?_ | refine R2.later ?_) | (refine r2w ?_; first | (try refine R2.melt ?_); first | refine R2.Bs ?_ | refine R2.B ?_ | refine R2.later ?_) | (refine r2l ?_; first | (refine R2.B ?_; refine S.L ?_) | refine R2.laterN ?_) | (refine R2.G (fun hg => ?_) (fun hg => ?_) <;> try (exfalso; first | omega | contradiction))) | (refine drg ?_; refine W.dr (by (repeat (apply Sel.ro)); exact Sel.done _) ?_))); exact ⟨_, trivial, lee⟩)
  rintro r3 _
  (repeat' (first|refine svz ⟨fun b hq=>?_⟩|refine svW ⟨?_⟩|refine svu ⟨fun u=>?_⟩|(refine svG (fun hc=>?_) (fun hc=>?_)<;>try exact svx)|refine svh (fun hb=>?_) (fun hb=>?_)|refine svb (fun b=>?_)|fail))
  exact fin_r (h' := .box b [.val (.int .u64 r3)] 222 :: h) ⟨r3, rfl, rfl⟩
set_option maxRecDepth 100000 in
theorem brk_c (l : List Int) (a bb : Nat) (v : Value) (h : Heap) (hab : a + 12 < bb) (hb : bb ≤ l.length) (hn : l.length < 1048576) :
    ACalls Tryz.prog 147 [.val v, .val (.int .i64 (a : Int)), .val (.int .i64 (bb : Int))] (.own v 1 (ints .i64 l) 3 :: h) (fun r h' => r = .tup [] ∧ ∃ l', h' = .own v 1 (ints .i64 l') 3 :: h ∧ l'.length = l.length ∧ PermIn a bb l.toArray l'.toArray) := by
  obtain ⟨n, hN⟩ : ∃ n, n = bb - a := ⟨_, rfl⟩
  obtain ⟨q, hq⟩ : ∃ q, q = n / 4 := ⟨_, rfl⟩
  have hM1 : 1 ≤ 2 ^ bitsLen n := Nat.one_le_two_pow
  have hM2 : 2 ^ bitsLen n ≤ 2 * n := two_pow_bitsLen_le (by omega)
  refine ACalls.intro Tryz.func147 rfl Tryz.ntmps147 Tryz.results147 (Nat.le_of_ble_eq_true rfl) ?_
  (repeat' (first|refine svz ⟨fun b hq=>?_⟩|refine svW ⟨?_⟩|refine svu ⟨fun u=>?_⟩|(refine svG (fun hc=>?_) (fun hc=>?_)<;>try exact svx)|refine svh (fun hb=>?_) (fun hb=>?_)|refine svb (fun b=>?_)|fail))
  revert b; intro b7
  rw [show ((bb : Int) - (a : Int)) = ((n : Nat) : Int) by omega]
  refine S.call ?_
  refine (pow_c n _ (by omega)).mono ?_
  rintro r h' ⟨rfl, hh⟩
  subst hh
  generalize 2 ^ bitsLen n = M at *
  (repeat' (first|refine svz ⟨fun b hq=>?_⟩|refine svW ⟨?_⟩|refine svu ⟨fun u=>?_⟩|(refine svG (fun hc=>?_) (fun hc=>?_)<;>try exact svx)|refine svh (fun hb=>?_) (fun hb=>?_)|refine svb (fun b=>?_)|fail))
  rw [show ((n : Nat) : Int) / 4 = ((q : Nat) : Int) by omega, show ((a : Int) + (q : Int) * 2 - 1) = ((a + q * 2 - 1 : Nat) : Int) by omega]
  refine W.loop (J := fun x : Nat × List Int × Int => ⟨65, [(9, .val (.int .i64 (x.1 : Int))), (8, .val (.int .u64 (M : Int))), (7, .val (.pointer (some ⟨b7, 0, none⟩))), (6, .val (.int .i64 (n : Int))), (1, .val (.int .i64 (a : Int))), (0, .val v)], .box b7 [.val (.int .u64 x.2.2)] 222 :: .own v 1 (ints .i64 x.2.1) 3 :: h⟩)
    (Φ := fun x => a ≤ x.1 ∧ x.1 ≤ a + q * 2 + 2 ∧ x.2.1.length = l.length ∧ PermIn a bb l.toArray x.2.1.toArray) (μ := fun x => a + q * 2 + 2 - x.1) (a + q * 2 - 1, l, (n : Int)) lee ⟨by dsimp only; omega, by dsimp only; omega, rfl, permIn_refl _ _ _⟩ ?_
  rintro ⟨idx, m, r⟩ ⟨h1, h2, h3, h4⟩
  dsimp only at h1 h2 h3 h4 ⊢
  rcases Nat.lt_or_ge idx (a + q * 2 + 2) with hlt | hge
  · (repeat' (first|refine svz ⟨fun b hq=>?_⟩|refine svW ⟨?_⟩|refine svu ⟨fun u=>?_⟩|(refine svG (fun hc=>?_) (fun hc=>?_)<;>try exact svx)|refine svh (fun hb=>?_) (fun hb=>?_)|refine svb (fun b=>?_)|fail))
    refine S.call ?_
    refine (next_c b7 r _).mono ?_
    rintro r' h' ⟨r2, rfl, hh⟩
    subst hh
    have hand := and_le r2 ((M : Int) - 1) ⟨by omega, by omega⟩
    (repeat' (first | refine svz ⟨fun b hq=>?_⟩|refine sw1 ?_|refine svs ⟨?_⟩|refine sv2 ?_|refine svu ⟨fun u=>?_⟩|(refine svG (fun hc=>?_) (fun hc=>?_)<;>try exact svx)|refine svh (fun hb=>?_) (fun hb=>?_)|refine svb (fun b=>?_) | fail))
    generalize bitsI .and .u64 r2 ((M : Int) - 1) = o at *
    obtain ⟨o, rfl⟩ : ∃ o' : Nat, o = (o' : Int) := ⟨o.toNat, by omega⟩
    refine W.mid (J := fun z : Nat => ⟨65, [(10, .val (.int .i64 (z : Int))), (9, .val (.int .i64 (idx : Int))), (8, .val (.int .u64 (M : Int))), (7, .val (.pointer (some ⟨b7, 0, none⟩))), (6, .val (.int .i64 (n : Int))), (1, .val (.int .i64 (a : Int))), (0, .val v)], .box b7 [.val (.int .u64 r2)] 222 :: .own v 1 (ints .i64 m) 3 :: h⟩) (Φ := fun z => z < n) ?_ ?_
    · (repeat' (first|refine svz ⟨fun b hq=>?_⟩|refine svW ⟨?_⟩|refine svu ⟨fun u=>?_⟩|(refine svG (fun hc=>?_) (fun hc=>?_)<;>try exact svx)|refine svh (fun hb=>?_) (fun hb=>?_)|refine svb (fun b=>?_)|fail))
      · exact ⟨o - n, by omega, by rw [show ((o - n : Nat) : Int) = (o : Int) - (n : Int) by omega]; exact lee⟩
      · exact ⟨o, by omega, lee⟩
    · intro z hz
      have hq0 : idx < m.length := by omega
      have hq1 : a + z < m.length := by omega
      have hix : Nat.succ 0 = 1 := rfl
      have hp : PermIn a bb l.toArray (swpL m idx (a + z)).toArray := by
        rw [swpL_arr]
        exact permIn_trans _ _ _ _ _ h4 (swp_permIn _ a bb _ _ h1 (by omega) (by omega) (by omega) (by simp; omega))
      (repeat' (first|refine svz ⟨fun b hq=>?_⟩|refine svW ⟨?_⟩|refine svu ⟨fun u=>?_⟩|(refine svG (fun hc=>?_) (fun hc=>?_)<;>try exact svx)|refine svh (fun hb=>?_) (fun hb=>?_)|refine svb (fun b=>?_)|fail))
      refine W.midB (J := fun _ : Unit => ⟨65, [(9, .val (.int .i64 (idx : Int))), (8, .val (.int .u64 (M : Int))), (7, .val (.pointer (some ⟨b7, 0, none⟩))), (6, .val (.int .i64 (n : Int))), (1, .val (.int .i64 (a : Int))), (0, .val v)], .box b7 [.val (.int .u64 r2)] 222 :: .own v 1 (ints .i64 (swpL m idx (a + z))) 3 :: h⟩) (Φ := fun _ => True) inBT ?_ ?_
      · (refine W.dend (.done _) ?_; refine D.T 0 ?_; refine D.T 1 ?_; refine D.T 2 ?_; refine D.T 3 ?_; refine D.T 4 ?_; refine D.T 5 ?_; refine D.T 6 ?_; refine D.T 7 ?_; refine D.T 8 ?_; refine D.T 9 ?_; refine D.V 10 ?_; refine D.T 12 ?_; refine D.T 13 ?_; refine D.V 14 ?_; refine D.B2 11 15 ?_ ?_; (refine S.L ?_; refine D.BL 15 ?_; refine S.L ?_; refine D.V 16 ?_; refine D.BL 17 ?_; refine S.store_elem ?_; refine D.V 18 ?_; refine D.BL 19 ?_; refine S.store_elem ?_; refine D.E ?_; refine thn ?_; refine ⟨(), trivial, ?_⟩; simp only [ints_set, getD_at, hix]; exact lee); (refine S.L ?_; refine D.BL 11 ?_; refine S.L ?_; refine D.V 16 ?_; refine D.BL 17 ?_; refine S.store_elem ?_; refine D.V 18 ?_; refine D.BL 19 ?_; refine S.store_elem ?_; refine D.E ?_; refine thn ?_; refine ⟨(), trivial, ?_⟩; simp only [ints_set, getD_at, hix]; exact lee))
      · rintro _ _
        (repeat' (first|refine svz ⟨fun b hq=>?_⟩|refine svW ⟨?_⟩|refine svu ⟨fun u=>?_⟩|(refine svG (fun hc=>?_) (fun hc=>?_)<;>try exact svx)|refine svh (fun hb=>?_) (fun hb=>?_)|refine svb (fun b=>?_)|fail))
        exact ⟨(idx + 1, swpL m idx (a + z), r2), ⟨by dsimp only; omega, by dsimp only; omega, by rw [swpL_length]; exact h3, hp⟩, lee, by dsimp only; omega⟩
  · (repeat' (first|refine svz ⟨fun b hq=>?_⟩|refine svW ⟨?_⟩|refine svu ⟨fun u=>?_⟩|(refine svG (fun hc=>?_) (fun hc=>?_)<;>try exact svx)|refine svh (fun hb=>?_) (fun hb=>?_)|refine svb (fun b=>?_)|fail))
    exact fin_n (h' := .own v 1 (ints .i64 m) 3 :: h) ⟨rfl, m, rfl, h3, h4⟩
end Go.Proofs.YtfbegifmhgkpjaaGreat
