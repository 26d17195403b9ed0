/- law 34: id, small, ink, plane. No condition. -/
import Derived.Test.YtfbegifmhgkpjaaGreatZ4
import Derived.Test.YtfbegifmhgkpjaaGreatS1
namespace Go.Proofs.YtfbegifmhgkpjaaGreat
open Go Go.VM
attribute [local irreducible] PurV Pur Step RL W D ACalls Then InBlock Fini
set_option linter.unusedVariables false
set_option linter.unusedSimpArgs false
set_option maxHeartbeats 20000000
def idT (n : Nat) : Int := if n = 0 then 1 else 1048576 + (n : Int)
set_option maxRecDepth 100000 in
theorem lid_c (n : Nat) (h : Heap) (hn : n ≤ 1000) : ACalls Tryz.prog 27 [.val (.int .i64 ((n : Int)))] h (fun r h' => r = .val (.int .u32 (idT n)) ∧ h' = h) := by
  unfold idT
  by_cases h0 : n = 0
  · subst h0
    refine ACalls.intro Tryz.func27 rfl Tryz.ntmps27 Tryz.results27 (Nat.le_of_ble_eq_true rfl) ?_
    (repeat' (first|refine svz ⟨fun b hq=>?_⟩|refine svA ⟨?_⟩|refine svu ⟨fun u=>?_⟩|(refine svG (fun hg=>?_) (fun hg=>?_)<;>try exact svx)|refine svh (fun hb=>?_) (fun hb=>?_)|refine svb (fun b=>?_)|fail))
    exact fin_r (h' := h) ⟨rfl, rfl⟩
  · rw [if_neg h0]
    refine ACalls.intro Tryz.func27 rfl Tryz.ntmps27 Tryz.results27 (Nat.le_of_ble_eq_true rfl) ?_
    (repeat' (first|refine svz ⟨fun b hq=>?_⟩|refine svA ⟨?_⟩|refine svu ⟨fun u=>?_⟩|(refine svG (fun hg=>?_) (fun hg=>?_)<;>try exact svx)|refine svh (fun hb=>?_) (fun hb=>?_)|refine svb (fun b=>?_)|fail))
    exact fin_r (h' := h) ⟨rfl, rfl⟩
def smR (r : RC) : Prop := (-100 ≤ r.x ∧ r.x ≤ 100) ∧ (-100 ≤ r.y ∧ r.y ≤ 100) ∧ (0 ≤ r.w ∧ r.w ≤ 100) ∧ 0 ≤ r.h ∧ r.h ≤ 100
instance decSm (r : RC) : Decidable (smR r) := inferInstanceAs (Decidable (_ ∧ _))
def smL (l : List RC) : Bool := decide (∀ r ∈ l, smR r) && decide (l.length ≤ 6)
set_option maxRecDepth 100000 in
theorem small_c (l : List RC) (h : Heap) : ACalls Tryz.prog 21 [.ro 4 (l.map RC.enc)] h (fun r h' => r = .val (.bool (smL l)) ∧ h' = h) := by
  refine ACalls.intro Tryz.func21 rfl Tryz.ntmps21 Tryz.results21 (Nat.le_of_ble_eq_true rfl) ?_
  refine W.len 0 rfl (fun hll => ?_); simp only [ints, splice, List.length_map, List.length_append, List.length_cons, List.length_nil, List.length_take, List.length_drop, List.length_set, List.length_replicate] at hll
  (repeat' (first|refine svz ⟨fun b hq=>?_⟩|refine svA ⟨?_⟩|refine svu ⟨fun u=>?_⟩|(refine svG (fun hg=>?_) (fun hg=>?_)<;>try exact svx)|refine svh (fun hb=>?_) (fun hb=>?_)|refine svb (fun b=>?_)|fail))
  refine W.loop (J := fun i : Nat => ⟨53, [(7, .val (.int .i64 ((i : Int)))), (6, .val (.int .i64 ((l.length : Int)))), (5, .ro 4 (l.map RC.enc)), (2, .val (.bool (false))), (0, .ro 4 (l.map RC.enc))], h⟩)
    (Φ := fun i => i ≤ l.length ∧ ∀ r ∈ l.take i, smR r) (μ := fun i => l.length - i) 0 lee ⟨Nat.zero_le _, by simp⟩ ?_
  rintro i ⟨hi, hall⟩
  rcases Nat.lt_or_ge i l.length with hlt | hge
  · obtain ⟨r, hr⟩ : ∃ r, l[i]? = some r := ⟨_, List.getElem?_eq_getElem hlt⟩
    by_cases hs : smR r
    · have hall2 : ∀ q ∈ l.take (i + 1), smR q := fun q hq => by
        rw [List.take_add_one, hr] at hq
        rcases List.mem_append.1 hq with hq | hq
        · exact hall q hq
        · rw [List.mem_singleton.1 hq]; exact hs
      obtain ⟨⟨a1, a2⟩, ⟨a3, a4⟩, ⟨a5, a6⟩, a7, a8⟩ := hs
      (repeat' (first|refine svz ⟨fun b hq=>?_⟩|refine svA ⟨?_⟩|refine svu ⟨fun u=>?_⟩|(refine svG (fun hg=>?_) (fun hg=>?_)<;>try exact svx)|refine svh (fun hb=>?_) (fun hb=>?_)|refine svb (fun b=>?_)|fail))
      exact ⟨i + 1, ⟨hlt, hall2⟩, lee, by omega⟩
    · have hno : smL l = false := by
        unfold smL
        rw [decide_eq_false (fun q => hs (q r (List.mem_of_getElem? hr))), Bool.false_and]
      rw [hno]
      unfold smR at hs
      (repeat' (first|refine svz ⟨fun b hq=>?_⟩|refine svA ⟨?_⟩|refine svu ⟨fun u=>?_⟩|(refine svG (fun hg=>?_) (fun hg=>?_)<;>try exact svx)|refine svh (fun hb=>?_) (fun hb=>?_)|refine svb (fun b=>?_)|fail))
      all_goals first | exact fin_r (h' := h) ⟨rfl, rfl⟩ | (exfalso; omega)
  · rw [List.take_of_length_le hge] at hall
    unfold smL
    rw [decide_eq_true hall, Bool.true_and]
    (repeat' (first|refine svz ⟨fun b hq=>?_⟩|refine svA ⟨?_⟩|refine svu ⟨fun u=>?_⟩|(refine svG (fun hg=>?_) (fun hg=>?_)<;>try exact svx)|refine svh (fun hb=>?_) (fun hb=>?_)|refine svb (fun b=>?_)|fail))
    refine fin_r (h' := h) ⟨?_, rfl⟩
    simp only [tupA, AV.val.injEq, Value.bool.injEq]
    exact decide_eq_decide.2 (by omega)
theorem bitsI_u8 (op : BinOp) (a c : Int) : 0 ≤ bitsI op .u8 a c ∧ bitsI op .u8 a c ≤ 255 := by
  have key : ∀ v : BitVec IntKind.u8.bits, 0 ≤ IntKind.u8.wrap (v.toNat : Int) ∧ IntKind.u8.wrap (v.toNat : Int) ≤ 255 := fun v => by
    have := v.isLt
    have e : (2 : Nat) ^ IntKind.u8.bits = 256 := rfl
    rw [wrap_u8 (by omega) (by omega)]
    omega
  exact key _
theorem wrap_ink {m1 m2 : Nat} (h1 : m1 < 16) (h2 : m2 < 16) : IntKind.u8.wrap (IntKind.i64.wrap (IntKind.i64.wrap ((m1 : Int) * 3) + IntKind.i64.wrap ((m2 : Int) * 7))) = (m1 : Int) * 3 + (m2 : Int) * 7 := by
  rw [wrap_i64 (a := (m1 : Int) * 3) (by omega) (by omega), wrap_i64 (a := (m2 : Int) * 7) (by omega) (by omega), wrap_i64 (by omega) (by omega), wrap_u8 (by omega) (by omega)]
def ik1 (w : Nat) (n : Int) (i : Nat) : Int := bitsI .xor .u8 n (((i % w : Nat) : Int) * 3 + ((i / w : Nat) : Int) * 7)
def inkF (w h : Nat) (n : Int) : List Int := (List.range (w * h)).map (ik1 w n)
theorem inkF_len (w h : Nat) (n : Int) : (inkF w h n).length = w * h := by unfold inkF; simp
theorem inkF_px (w h : Nat) (n : Int) : ∀ p ∈ inkF w h n, 0 ≤ p ∧ p ≤ 255 := fun p hp => by
  obtain ⟨i, _, rfl⟩ := List.mem_map.1 hp
  exact bitsI_u8 _ _ _
theorem set_map {f : Nat → Int} {n i : Nat} (hi : i < n) : (((List.range i).map f ++ List.replicate (n - i) 0).set i (f i)) = (List.range (i + 1)).map f ++ List.replicate (n - (i + 1)) 0 := by
  rw [List.set_append_right _ _ (by simp), List.length_map, List.length_range, Nat.sub_self, show n - i = (n - (i + 1)) + 1 by omega, List.replicate_succ, List.set_cons_zero, List.range_succ, List.map_append]
  simp
set_option maxRecDepth 100000 in
theorem ink_c (w h : Nat) (n : Int) (H : Heap) (hw : 1 ≤ w ∧ w ≤ 16) (hh : 1 ≤ h ∧ h ≤ 16) : ACalls Tryz.prog 22 [.val (.int .i64 ((w : Int))), .val (.int .i64 ((h : Int))), .val (.int .u8 (n))] H (fun r h' => r = .ro 1 (ints .u8 (inkF w h n)) ∧ h' = H) := by
  have hm : w * h ≤ 16 * 16 := Nat.mul_le_mul hw.2 hh.2
  have e : (w : Int) * (h : Int) = ((w * h : Nat) : Int) := by push_cast; rfl
  refine fz (g := fun v => v) (g' := fun v => v) (k := 1) (e := 5) (l := ints .u8 (inkF w h n)) (fun v => by (repeat' (first | exact Frz.hit | apply Frz.aggc | apply Frz.tupc | exact Frz.aggn | exact Frz.tupn | exact Frz.keep _))) ?_
  have hnn : 0 ≤ (w : Int) * (h : Int) ∧ (w : Int) * (h : Int) ≤ 256 := by rw [e]; omega
  refine ACalls.intro Tryz.func22 rfl Tryz.ntmps22 Tryz.results22 (Nat.le_of_ble_eq_true rfl) ?_
  (repeat' (first|refine svz ⟨fun b hq=>?_⟩|refine svA ⟨?_⟩|refine svu ⟨fun u=>?_⟩|(refine svG (fun hg=>?_) (fun hg=>?_)<;>try exact svx)|refine svh (fun hb=>?_) (fun hb=>?_)|refine svb (fun b=>?_)|fail))
  have e0 : List.replicate (w * h) (AV.val (.int .u8 0)) = ints .u8 (List.replicate (w * h) 0) := by simp [ints]
  rw [e0]
  clear e hnn e0
  refine W.loop (J := fun i : Nat => ⟨35, [(15, .val (.int .i64 ((i : Nat)))), (14, .val (.int .i64 ((w * h : Nat)))), (0, .val (.int .i64 ((w : Int)))), (2, .val (.int .u8 (n))), (7, .val u), (6, .val (.slice none 0 0))], .own u 1 (ints .u8 ((List.range i).map (ik1 w n) ++ List.replicate (w * h - i) 0)) 5 :: H⟩)
    (Φ := fun i => i ≤ w * h) (μ := fun i => w * h - i) 0 lee (Nat.zero_le _) ?_
  rintro i hi
  rcases Nat.lt_or_ge i (w * h) with hlt | hge
  · have hs := set_map (f := ik1 w n) hlt
    have hl : ((List.range i).map (ik1 w n) ++ List.replicate (w * h - i) 0).length = w * h := by simp; omega
    generalize (List.range i).map (ik1 w n) ++ List.replicate (w * h - i) 0 = M at *
    generalize hM2 : (List.range (i + 1)).map (ik1 w n) ++ List.replicate (w * h - (i + 1)) 0 = M2 at *
    have hs2 := set8 M i (ik1 w n i)
    rw [hs] at hs2
    clear hs
    unfold ik1 at hs2
    have b1 : i % w < 16 := by have := Nat.mod_lt i (show w > 0 by omega); omega
    have b2 : i / w < 16 := by have : i / w < h := Nat.div_lt_of_lt_mul hlt; omega
    have q1 : Unit → (i : Int) % (w : Int) = ((i % w : Nat) : Int) := fun _ => (Int.natCast_emod i w).symm
    have q2 : Unit → (i : Int) / (w : Int) = ((i / w : Nat) : Int) := fun _ => (Int.natCast_ediv i w).symm
    generalize i % w = m1 at *
    generalize i / w = m2 at *
    have hs2 : Hold _ := ⟨hs2⟩
    (repeat' (first|refine svz ⟨fun b hq=>?_⟩|refine svA ⟨?_⟩|refine svu ⟨fun u=>?_⟩|(refine svG (fun hg=>?_) (fun hg=>?_)<;>try exact svx)|refine svh (fun hb=>?_) (fun hb=>?_)|refine svb (fun b=>?_)|fail))
    refine ⟨i + 1, hlt, ?_, by omega⟩
    rw [hM2, q1 (), q2 (), wrap_ink b1 b2, show ((i + 1 : Nat) : Int) = (i : Int) + 1 by push_cast; rfl, ← hs2.out]
    exact lee
  · have ei : i = w * h := by omega
    rw [ei, Nat.sub_self, List.replicate_zero, List.append_nil]
    (repeat' (first|refine svz ⟨fun b hq=>?_⟩|refine svA ⟨?_⟩|refine svu ⟨fun u=>?_⟩|(refine svG (fun hg=>?_) (fun hg=>?_)<;>try exact svx)|refine svh (fun hb=>?_) (fun hb=>?_)|refine svb (fun b=>?_)|fail))
    exact fin_r (h' := .own u 1 (ints .u8 (inkF w h n)) 5 :: H) ⟨u, rfl, rfl⟩
theorem mix_set {g : GR} (k : g.Ok) {i : Nat} (hi : i < g.w * g.h) (p : Int) : g.mix (fun a c => decide (g.has a c) && (decide (a = ((i % g.w : Nat) : Int)) && decide (c = ((i / g.w : Nat) : Int)))) (fun _ _ => p) = ⟨g.w, g.h, g.pix.set i p⟩ := by
  have hw : 0 < g.w := by have := k.w; omega
  have m1 := Nat.mod_lt i hw
  have m2 : i / g.w < g.h := Nat.div_lt_of_lt_mul hi
  have := mixG_set (w := g.w) (D := fun _ _ => false) (f := fun _ _ => p) (p := g.pix) (x := i % g.w) (y := i / g.w) m1
  rw [mixG_none, show i / g.w * g.w + i % g.w = i by rw [Nat.mul_comm]; exact Nat.div_add_mod i g.w] at this
  rw [this]
  unfold GR.mix
  congr 1
  exact mixG_congr k.len (fun c d h1 h2 => by rw [decide_eq_true (show g.has c d by unfold GR.has; omega)]; simp) (fun _ _ _ _ _ => rfl)
set_option maxRecDepth 100000 in
theorem plane_c (w h : Nat) (P : List Int) (H : Heap) (hw : 1 ≤ w ∧ w ≤ 16) (hh : 1 ≤ h ∧ h ≤ 16) (hP : P.length = w * h) (hpx : ∀ p ∈ P, 0 ≤ p ∧ p ≤ 255) : ACalls Tryz.prog 23 [.val (.int .i64 ((w : Int))), .val (.int .i64 ((h : Int))), .ro 1 (ints .u8 P)] H (fun r h' => r = .tup [encG ⟨w, h, P⟩, .val (.bool (true))] ∧ h' = H) := by
  have hm : w * h ≤ 16 * 16 := Nat.mul_le_mul hw.2 hh.2
  have gn := fun H => gnew_c w h 0 H (by omega) (by omega)
  have hi0 : (ints .u8 P).length = P.length := len_ints _ _
  unfold encG at *
  dsimp only at *
  refine ACalls.intro Tryz.func23 rfl Tryz.ntmps23 Tryz.results23 (Nat.le_of_ble_eq_true rfl) ?_
  (repeat' (first|refine svz ⟨fun b hq=>?_⟩|refine svA ⟨?_⟩|refine svu ⟨fun u=>?_⟩|(refine svG (fun hg=>?_) (fun hg=>?_)<;>try exact svx)|refine svh (fun hb=>?_) (fun hb=>?_)|refine svb (fun b=>?_)|fail))
  refine S.call ?_; refine (gn _).mono ?_; rintro r h' ⟨rfl, hh⟩; subst hh
  (repeat' (first|refine svz ⟨fun b hq=>?_⟩|refine svA ⟨?_⟩|refine svu ⟨fun u=>?_⟩|(refine svG (fun hg=>?_) (fun hg=>?_)<;>try exact svx)|refine svh (fun hb=>?_) (fun hb=>?_)|refine svb (fun b=>?_)|fail))
  rename_i b6
  revert b; intro b8
  refine W.loop (J := fun i : Nat => ⟨38, [(20, .val (.int .i64 ((i : Nat)))), (19, .val (.int .i64 ((P.length : Nat)))), (18, .ro 1 (ints .u8 P)), (0, .val (.int .i64 ((w : Int)))), (9, .val (.int .i64 (0))), (8, .val (.pointer (some ⟨b8, 0, none⟩))), (6, .val (.pointer (some ⟨b6, 0, none⟩)))], .box b8 [.val (.int .i64 ((w : Int))), .val (.int .i64 ((h : Int))), .ro 1 (ints .u8 (P.take i ++ List.replicate (w * h - i) 0))] 88 :: .box b6 [.val (.int .i64 (0)), .val (.int .i64 (0)), .val (.slice none 0 0)] 88 :: H⟩)
    (Φ := fun i => i ≤ P.length) (μ := fun i => P.length - i) 0 lee (Nat.zero_le _) ?_
  rintro i hi
  rcases Nat.lt_or_ge i P.length with hlt | hge
  · obtain ⟨p, hp⟩ : ∃ p, P[i]? = some p := ⟨_, List.getElem?_eq_getElem hlt⟩
    have hp2 := hpx p (List.mem_of_getElem? hp)
    have hok : (⟨w, h, P.take i ++ List.replicate (w * h - i) 0⟩ : GR).Ok := ⟨by dsimp only; omega, by dsimp only; omega, by simp; omega, fun q hq => by
      rcases List.mem_append.1 hq with hq | hq
      · exact hpx q (List.mem_of_mem_take hq)
      · rw [(List.mem_replicate.1 hq).2]; omega⟩
    have hms := mix_set hok (i := i) (by dsimp only; omega) p
    have hss : (P.take i ++ List.replicate (w * h - i) 0).set i p = P.take (i + 1) ++ List.replicate (w * h - (i + 1)) 0 := by
      rw [List.set_append_right _ _ (by simp; omega), List.length_take, show i - min i P.length = 0 by omega, show w * h - i = (w * h - (i + 1)) + 1 by omega, List.replicate_succ, List.set_cons_zero, List.take_add_one, hp]
      simp
    dsimp only at hms
    rw [hss] at hms
    have sc := fun H => gset_c _ ((i % w : Nat) : Int) ((i / w : Nat) : Int) p H hok
    rw [hms] at sc
    clear hms hss hok hpx
    unfold encG at sc
    dsimp only at sc
    have q1 : Unit → (i : Int) % (w : Int) = ((i % w : Nat) : Int) := fun _ => (Int.natCast_emod i w).symm
    have q2 : Unit → (i : Int) / (w : Int) = ((i / w : Nat) : Int) := fun _ => (Int.natCast_ediv i w).symm
    generalize i % w = m1 at *
    generalize i / w = m2 at *
    generalize P.take i ++ List.replicate (w * h - i) 0 = M at *
    generalize hM2 : P.take (i + 1) ++ List.replicate (w * h - (i + 1)) 0 = M2 at *
    (repeat' (first|refine svz ⟨fun b hq=>?_⟩|refine svA ⟨?_⟩|refine svu ⟨fun u=>?_⟩|(refine svG (fun hg=>?_) (fun hg=>?_)<;>try exact svx)|refine svh (fun hb=>?_) (fun hb=>?_)|refine svb (fun b=>?_)|fail))
    rw [q1 (), q2 ()]
    clear q1 q2
    refine R2.C (sc _) ?_
    (repeat' (first|refine svz ⟨fun b hq=>?_⟩|refine svA ⟨?_⟩|refine svu ⟨fun u=>?_⟩|(refine svG (fun hg=>?_) (fun hg=>?_)<;>try exact svx)|refine svh (fun hb=>?_) (fun hb=>?_)|refine svb (fun b=>?_)|fail))
    exact ⟨i + 1, hlt, by rw [hM2]; exact lee, by omega⟩
  · have ei : i = P.length := by omega
    subst ei
    rw [hP, Nat.sub_self, List.replicate_zero, List.append_nil, ← hP, List.take_length]
    (repeat' (first|refine svz ⟨fun b hq=>?_⟩|refine svA ⟨?_⟩|refine svu ⟨fun u=>?_⟩|(refine svG (fun hg=>?_) (fun hg=>?_)<;>try exact svx)|refine svh (fun hb=>?_) (fun hb=>?_)|refine svb (fun b=>?_)|fail))
    exact fin_r (h' := H) ⟨rfl, rfl⟩
end Go.Proofs.YtfbegifmhgkpjaaGreat
