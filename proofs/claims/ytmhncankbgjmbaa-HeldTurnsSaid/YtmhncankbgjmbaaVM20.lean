/- Maps: the rules, ready for a walk. No condition. -/
import Derived.Test.YtmhncankbgjmbaaVM19
namespace Go.VM
open Go
set_option linter.unusedVariables false
set_option linter.unusedSimpArgs false
theorem lkw_int (k : IntKind) (o : Option Int) : Wk (lkV (vI k) (.val (.int k 0)) o) (.val (.int k (o.getD 0))) := by rw [lkV_int]; exact .refl _
theorem lkw_bool (o : Option Bool) : Wk (lkV vB (.val (.bool false)) o) (.val (.bool (o.getD false))) := by rw [lkV_bool]; exact .refl _
def vL (k : IntKind) (l : List Int) : AV := .ro 1 (ints k l)
theorem lkw_ints (k : IntKind) (o : Option (List Int)) : Wk (lkV (vL k) (.val (.slice none 0 0)) o) (.ro 1 (ints k (o.getD []))) := by cases o; exact .nilr 1; exact .refl _
section
variable {P : Program} {ty : Nat} {pos : String} {af : Array Edge} {gd : Option (Nat × Bool)} {x y z : Operand} {t : List (Nat × AV)} {h : Heap} {v : AV} {mt : Nat} {c : Bool}
theorem jLk {d : Option Nat} (k : Pur P ⟨d, .lookup mt x y false, ty, pos, af, gd⟩ t h v) : Pur P ⟨d, .lookup mt x y false, ty, pos, af, gd⟩ t h v := k
theorem jLk2 {d : Option Nat} (k : Pur P ⟨d, .lookup mt x y true, ty, pos, af, gd⟩ t h v) : Pur P ⟨d, .lookup mt x y true, ty, pos, af, gd⟩ t h v := k
theorem jCm {d : Option Nat} {b : Builtin} {ar : Array Operand} {ts : Array Nat} (k : Pur P ⟨d, .call ⟨.builtin b, ar, ts⟩, ty, pos, af, gd⟩ t h v) : Pur P ⟨d, .call ⟨.builtin b, ar, ts⟩, ty, pos, af, gd⟩ t h v := k
theorem jEn {d : Option Nat} (k : Pur P ⟨d, .entry x, ty, pos, af, gd⟩ t h v) : Pur P ⟨d, .entry x, ty, pos, af, gd⟩ t h v := k
variable {n d : Nat} {K : St → Prop} {o : Oper} {α : Type} {kd : IntKind} {f : α → AV} {m : List (Int × α)} {i : Int} {kt et : Nat}
theorem iMl (k : Step P ⟨some d, .lookup mt x y c, ty, pos, af, gd⟩ ⟨n, t, h⟩ K) : Step P ⟨some d, .lookup mt x y c, ty, pos, af, gd⟩ ⟨n, t, h⟩ K := k
theorem iMe (k : Step P ⟨some d, .entry x, ty, pos, af, gd⟩ ⟨n, t, h⟩ K) : Step P ⟨some d, .entry x, ty, pos, af, gd⟩ ⟨n, t, h⟩ K := k
theorem S.Ml (k : K ⟨n, (d, v) :: t, h⟩) (hp : Pur P ⟨some d, .lookup mt x y c, ty, pos, af, gd⟩ t h v := by first | (apply jLk; first | exact pur_look_ro rfl rfl (by first | exact lkw_int _ _ | exact lkw_bool _ | exact lkw_ints _ _ | exact Wk.refl _) | exact pur_look_own rfl (by (fail_if_success (apply memG)); repeat (first | exact List.Mem.head _ | assumption | refine List.Mem.tail _ ?_)) rfl (by first | exact lkw_int _ _ | exact lkw_bool _ | exact lkw_ints _ _ | exact Wk.refl _) | exact pur_look_nil rfl rfl | fail) | (apply jLk2; exact pur_look_ok_ro rfl rfl (by first | exact lkw_int _ _ | exact lkw_bool _ | exact lkw_ints _ _ | exact Wk.refl _)) | fail) (hn : Nat.blt d n = true := by rfl) : Step P ⟨some d, .lookup mt x y c, ty, pos, af, gd⟩ ⟨n, t, h⟩ K := step_pur hp hn k
theorem S.Me (k : K ⟨n, (d, v) :: t, h⟩) (hp : Pur P ⟨some d, .entry x, ty, pos, af, gd⟩ t h v := by exact pur_entry rfl (by (fail_if_success (apply memG)); repeat (first | exact List.Mem.head _ | assumption | refine List.Mem.tail _ ?_)) (by assumption)) (hn : Nat.blt d n = true := by rfl) : Step P ⟨some d, .entry x, ty, pos, af, gd⟩ ⟨n, t, h⟩ K := step_pur hp hn k
theorem S.Mc (k : K ⟨n, (d, v) :: t, h⟩) (hp : Pur P ⟨some d, .call { callee := .builtin .len, args := #[x], argTypes := #[mt] }, ty, pos, af, gd⟩ t h v := by first | exact pur_lenm_own rfl (by (fail_if_success (apply memG)); repeat (first | exact List.Mem.head _ | assumption | refine List.Mem.tail _ ?_)) | exact pur_lenm_ro rfl | fail) (hn : Nat.blt d n = true := by rfl) : Step P ⟨some d, .call { callee := .builtin .len, args := #[x], argTypes := #[mt] }, ty, pos, af, gd⟩ ⟨n, t, h⟩ K := step_pur hp hn k
theorem S.mkm {q : Operand} {kk : IntKind} {nn : Int} [hm : TMap P mt kt et kd] (f : α → AV) (hK : ∀ b, K ⟨n, (d, .val (.map (some b))) :: t, mpV b kd f [] :: h⟩) (hq : evalA t q = some (.val (.int kk nn)) := by rfl) (hn : Nat.blt d n = true := by rfl) : Step P ⟨some d, .makeMap mt (some q), ty, pos, af, gd⟩ ⟨n, t, h⟩ K :=
  step_makeMap (fun q' e => by injection e with e; subst e; exact ⟨_, _, hq⟩) hn f hK
theorem S.mkm0 [hm : TMap P mt kt et kd] (f : α → AV) (hK : ∀ b, K ⟨n, (d, .val (.map (some b))) :: t, mpV b kd f [] :: h⟩) (hn : Nat.blt d n = true := by rfl) : Step P ⟨some d, .makeMap mt none, ty, pos, af, gd⟩ ⟨n, t, h⟩ K :=
  step_makeMap (fun q' e => by cases e) hn f hK
theorem iMu (k : Step P ⟨none, .mapUpdate mt x y z, ty, pos, af, gd⟩ ⟨n, t, h⟩ K) : Step P ⟨none, .mapUpdate mt x y z, ty, pos, af, gd⟩ ⟨n, t, h⟩ K := k
theorem S.mapU {b : Nat} {a : α} {v' : AV} {h' : Heap} [hm : TMap P mt kt et kd] (hK : K ⟨n, t, h'⟩) (hx : evalA t x = some (.val (.map (some b))) := by rfl) (hu : Up h (mpV b kd f m) (mpV b kd f (putF m i a)) h' := by (repeat (first | exact Up.here | assumption | apply Up.there))) (hy : evalA t y = some (.val (.int kd i)) := by rfl) (hz : evalA t z = some v' := by rfl) (hv : Wk v' (f a) := by exact Wk.refl _) :
    Step P ⟨none, .mapUpdate mt x y z, ty, pos, af, gd⟩ ⟨n, t, h⟩ K := step_mapUpdate hx hy hz hv hu hK
theorem iMd {dd : Option Nat} {ar : Array Operand} {ts : Array Nat} (k : Step P ⟨dd, .call ⟨.builtin .delete, ar, ts⟩, ty, pos, af, gd⟩ ⟨n, t, h⟩ K) : Step P ⟨dd, .call ⟨.builtin .delete, ar, ts⟩, ty, pos, af, gd⟩ ⟨n, t, h⟩ K := k
theorem S.mapD {b kty : Nat} {h' : Heap} [hm : TMap P mt kt et kd] (hK : K ⟨n, t, h'⟩) (hx : evalA t x = some (.val (.map (some b))) := by rfl) (hu : Up h (mpV b kd f m) (mpV b kd f (delF m i)) h' := by (repeat (first | exact Up.here | assumption | apply Up.there))) (hy : evalA t y = some (.val (.int kd i)) := by rfl) :
    Step P ⟨none, .call { callee := .builtin .delete, args := #[x, y], argTypes := #[mt, kty] }, ty, pos, af, gd⟩ ⟨n, t, h⟩ K := step_delete hx hy hu rfl hK
theorem iMr (k : Step P ⟨some d, .range mt x, ty, pos, af, gd⟩ ⟨n, t, h⟩ K) : Step P ⟨some d, .range mt x, ty, pos, af, gd⟩ ⟨n, t, h⟩ K := k
theorem S.rng [hm : TMap P mt kt et kd] (hK : ∀ b, K ⟨n, (d, .val (.pointer (some ⟨b, 0, none⟩))) :: t, mitV b kd f m (List.range m.length) none :: h⟩) (hx : evalA t x = some (mapV kd f m) := by rfl) (hn : Nat.blt d n = true := by rfl) : Step P ⟨some d, .range mt x, ty, pos, af, gd⟩ ⟨n, t, h⟩ K := step_range hx hn hK
theorem S.next {b : Nat} {left : List Nat} {last : Option Nat} {h' : Nat → Heap} (h0 : left = [] → K ⟨n, (d, .tup [.val (.bool false)]) :: t, h⟩) (h1 : ∀ i p, i ∈ left → m[i]? = some p → K ⟨n, (d, .tup [.val (.bool true), .val (.int kd p.1), f p.2]) :: t, h' i⟩) (hx : evalA t x = some (.val (.pointer (some ⟨b, 0, none⟩))) := by rfl)
    (hu : ∀ i, Up h (mitV b kd f m left last) (mitV b kd f m (left.erase i) (some i)) (h' i) := by intro i; (repeat (first | exact Up.here | assumption | apply Up.there))) (hn : Nat.blt d n = true := by rfl) : Step P ⟨some d, .next x false, ty, pos, af, gd⟩ ⟨n, t, h⟩ K :=
  step_next hx hu hn h0 h1
/-! arrays by value -/
theorem iAi (k : Step P ⟨some d, .index mt x y, ty, pos, af, gd⟩ ⟨n, t, h⟩ K) : Step P ⟨some d, .index mt x y, ty, pos, af, gd⟩ ⟨n, t, h⟩ K := k
theorem iShr {xt yt : Nat} (k : Step P ⟨some d, .binOp .shr xt x y yt, ty, pos, af, gd⟩ ⟨n, t, h⟩ K) : Step P ⟨some d, .binOp .shr xt x y yt, ty, pos, af, gd⟩ ⟨n, t, h⟩ K := k
theorem iShl {xt yt : Nat} (k : Step P ⟨some d, .binOp .shl xt x y yt, ty, pos, af, gd⟩ ⟨n, t, h⟩ K) : Step P ⟨some d, .binOp .shl xt x y yt, ty, pos, af, gd⟩ ⟨n, t, h⟩ K := k
theorem iQuo {xt yt : Nat} (k : Step P ⟨some d, .binOp .quo xt x y yt, ty, pos, af, gd⟩ ⟨n, t, h⟩ K) : Step P ⟨some d, .binOp .quo xt x y yt, ty, pos, af, gd⟩ ⟨n, t, h⟩ K := k
/-- A shift by a number that stands there. -/
theorem S.shrk {xt yt : Nat} {k k' : IntKind} {a b : Int} {q : Nat} (hK : K ⟨n, (d, .val (.int k (a / (q : Nat)))) :: t, h⟩) (hx : evalA t x = some (.val (.int k a)) := by rfl) (hy : evalA t y = some (.val (.int k' b)) := by rfl) (hb : 0 ≤ b := by omega) (hq : 2 ^ (min b.toNat k.bits) = q := by (simp [IntKind.bits]; rfl)) (hn : Nat.blt d n = true := by rfl) :
    Step P ⟨some d, .binOp .shr xt x y yt, ty, pos, af, gd⟩ ⟨n, t, h⟩ K := step_v (pur_shr (c := a / (q : Nat)) hx hy hb (by rw [← hq]; rw [Int.fdiv_eq_ediv_of_nonneg _ (by exact Int.pow_nonneg (by decide))]; simp)) hn hK
theorem S.shlk {xt yt : Nat} {k k' : IntKind} {a b c : Int} {q : Nat} (hK : K ⟨n, (d, .val (.int k c)) :: t, h⟩) (hx : evalA t x = some (.val (.int k a)) := by rfl) (hy : evalA t y = some (.val (.int k' b)) := by rfl) (hb : 0 ≤ b := by omega) (hq : 2 ^ (min b.toNat k.bits) = q := by (simp [IntKind.bits]; rfl)) (hw : k.wrap (a * (q : Nat)) = c := by first | exact wrap_i64 (by omega) (by omega) | exact wrap_u32 (by omega) (by omega) | exact rfl) (hn : Nat.blt d n = true := by rfl) :
    Step P ⟨some d, .binOp .shl xt x y yt, ty, pos, af, gd⟩ ⟨n, t, h⟩ K := step_v (pur_shl (c := c) hx hy hb (by rw [← hw, ← hq]; simp)) hn hK
theorem wrap_quo32 {a b : Int} (h1 : 0 ≤ a) (h2 : 0 < b) (h : a ≤ 4294967295) : IntKind.u32.wrap (a.tdiv b) = a / b := by
  rw [Int.tdiv_eq_ediv_of_nonneg h1]
  have := Int.ediv_nonneg h1 (by omega : 0 ≤ b)
  have := Int.ediv_le_self b h1
  exact wrap_u32 (by omega) (by omega)
theorem S.quo32 {xt yt : Nat} {a b : Int} (hK : K ⟨n, (d, .val (.int .u32 (a / b))) :: t, h⟩) (hx : evalA t x = some (.val (.int .u32 a)) := by rfl) (hy : evalA t y = some (.val (.int .u32 b)) := by rfl) (h1 : 0 ≤ a := by omega) (h2 : 0 < b := by omega) (h3 : a ≤ 4294967295 := by omega) (hn : Nat.blt d n = true := by rfl) :
    Step P ⟨some d, .binOp .quo xt x y yt, ty, pos, af, gd⟩ ⟨n, t, h⟩ K := step_v (pur_quo hx hy (by omega) (wrap_quo32 h1 h2 h3)) hn hK
theorem pur_index_agg {tm : List (Nat × AV)} {dd : Option Nat} {xt nn e k j : Nat} {g : Bool} {l : List AV} {i : Int} [ha : TArr P xt nn e k g] (hx : evalA tm x = some (.agg l)) (hy : evalA tm y = some (.val (.int kd i))) (hi : i = (j : Int)) (hj : j < nn) (hv : loadA g k l (j * k) = some v) :
    PurV P ⟨dd, .index xt x y, ty, pos, af, gd⟩ tm h v := fun m a w0 ht g1 g2 => by
  have hx := ht.eval hx
  simp only [Rel] at hx
  obtain ⟨cs, hx, hr⟩ := hx
  obtain ⟨h6, h7⟩ := mk_rel hr hv (valQ_spec ha.v).2.2
  refine ⟨_, h6, fun w => ?_⟩
  subst hi
  have : (j : Int) < (nn : Int) := by omega
  simp [execOp, hx, eval_val ht hy, Instr.index, asIntOf, run_underlying ha.h, hj, run_sizeOf ha.v, run_part ha.v (by simpa using h7)]
theorem S.Ai {xt nn e k j : Nat} {g : Bool} {l : List AV} {i : Int} [ha : TArr P xt nn e k g] (hK : K ⟨n, (d, v) :: t, h⟩) (hx : evalA t x = some (.agg l) := by rfl) (hy : evalA t y = some (.val (.int kd i)) := by rfl) (hi : i = (j : Int) := by rfl) (hj : j < nn := by omega) (hv : loadA g k l (j * k) = some v := by rfl) (hn : Nat.blt d n = true := by rfl) :
    Step P ⟨some d, .index xt x y, ty, pos, af, gd⟩ ⟨n, t, h⟩ K := step_v (pur_index_agg hx hy hi hj hv) hn hK
theorem S.Ar1 {xt nn e b : Nat} {g : Bool} {i : Int} [ha : TArr P xt nn e 1 g] (j : Nat) (hK : K ⟨n, (d, .val (.pointer (some ⟨b, j, none⟩))) :: t, h⟩) (hx : evalA t x = some (.val (.pointer (some ⟨b, 0, none⟩))) := by rfl) (hy : evalA t y = some (.val (.int kd i)) := by rfl) (hi : i = (j : Int) := by first | rfl | omega) (hj : j < nn := by omega) (hn : Nat.blt d n = true := by rfl) :
    Step P ⟨some d, .indexAddr xt x y, ty, pos, af, gd⟩ ⟨n, t, h⟩ K := by
  have := pur_index_arr (P := P) (d := some d) (ty := ty) (pos := pos) (af := af) (gd := gd) (h := h) (ha := ha) hx hy hi hj
  rw [Nat.mul_one, Nat.zero_add] at this
  exact step_v this hn hK
theorem S.Ar {xt nn e k j b o : Nat} {g : Bool} {i : Int} [ha : TArr P xt nn e k g] (hK : K ⟨n, (d, .val (.pointer (some ⟨b, o + j * k, none⟩))) :: t, h⟩) (hx : evalA t x = some (.val (.pointer (some ⟨b, o, none⟩))) := by rfl) (hy : evalA t y = some (.val (.int kd i)) := by rfl) (hi : i = (j : Int) := by rfl) (hj : j < nn := by omega) (hn : Nat.blt d n = true := by rfl) :
    Step P ⟨some d, .indexAddr xt x y, ty, pos, af, gd⟩ ⟨n, t, h⟩ K := step_v (pur_index_arr hx hy hi hj) hn hK
end
theorem Step.le {P : Program} {o : Oper} {K : St → Prop} {s s' : St} (k : Le s s') (q : Step P o s' K) : Step P o s K := fun m0 w0 a w hs => q m0 w0 a w (hs.le k)
/-! what has come of a map, and what is left -/
theorem rng_step {β : Type} {t done : List β} {left : List Nat} {i : Nat} {p : β} (h : (done ++ remL t left).Perm t) (hi : i ∈ left) (hp : t[i]? = some p) : ((done ++ [p]) ++ remL t (left.erase i)).Perm t := by
  rw [List.append_assoc]
  exact ((remL_cons hi hp).append_left done).symm.trans h
theorem rng_end {β : Type} {t done : List β} {left : List Nat} (h : (done ++ remL t left).Perm t) (hl : left = []) : done.Perm t := by
  subst hl; simpa [remL] using h
theorem rng_start {β : Type} (t : List β) : ([] ++ remL t (List.range t.length)).Perm t := by rw [remL_all]; exact .refl _
theorem rng_len {β : Type} {t done : List β} {left : List Nat} (h : (done ++ remL t left).Perm t) : done.length ≤ t.length := by
  have := h.length_eq; rw [List.length_append] at this; omega
theorem rng_less {left : List Nat} {i : Nat} (hi : i ∈ left) : (left.erase i).length < left.length := by
  rw [List.length_erase_of_mem hi]; have := List.length_pos_of_mem hi; omega
end Go.VM
