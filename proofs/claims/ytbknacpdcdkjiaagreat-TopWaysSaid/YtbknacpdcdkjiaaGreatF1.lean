import Derived.Test.YtbknacpdcdkjiaaGreatVM39
import Derived.Test.YtbknacpdcdkjiaaGreatVM42
import Derived.Test.YtbknacpdcdkjiaaGreatVM29
import Derived.Test.YtbknacpdcdkjiaaGreatB7
/- Three things of any kinds made in a region that draws its order. No condition. -/
namespace Go.VM
open Go
set_option maxRecDepth 100000
set_option linter.unusedVariables false
set_option linter.unusedSimpArgs false
section
variable {ro : Option Nat} {P : Program} {n : Nat} {t : List (Nat × AV)} {h : Heap} {K : St → Prop} {ops : Array Oper} {hro : Heap} {todo : List Nat}
def Mk (P : Program) (ops : Array Oper) (n : Nat) (t : List (Nat × AV)) (o : Oper) (d : Nat) (v : Nat → AV) (e : Nat → OE) : Prop :=
  ∀ (tr : List (Nat × AV)) (h : Heap) (K : St → Prop), (∀ x ∈ readsOf ops o, get tr x = get t x) → (∀ b, K ⟨n, (d, v b) :: tr, e b :: h⟩) → Step P o ⟨n, tr, h⟩ K
theorem Mk.alloc {d ty e : Nat} {pos : String} {af : Array Edge} {gd : Option (Nat × Bool)} {z : List AV} [TZero P e z] (hn : Nat.blt d n = true := by rfl) : Mk P ops n t ⟨some d, .alloc e, ty, pos, af, gd⟩ d (fun b => .val (.pointer (some ⟨b, 0, none⟩))) (fun b => .box b z e) :=
  fun tr h K _ hK => S.alloc hK hn
theorem Mk.mapk {α : Type} {d ty mt kt et r : Nat} {pos : String} {af : Array Edge} {gd : Option (Nat × Bool)} {kk : IntKind} {nn : Int} [hm : TMapK P mt kt et] (f : α → AV) (hr : r ∈ readsOf ops ⟨some d, .makeMap mt (some (.tmp r)), ty, pos, af, gd⟩ := by decide +kernel) (hq : get t r = some (.val (.int kk nn)) := by rfl) (hn : Nat.blt d n = true := by rfl) :
    Mk P ops n t ⟨some d, .makeMap mt (some (.tmp r)), ty, pos, af, gd⟩ d (fun b => .val (.map (some b))) (fun b => mpK b f []) :=
  fun tr h K hg hK => S.mkk f hK (hq := (hg r hr).trans hq) (hn := hn)
theorem Mk.map {α : Type} {d ty mt kt et r : Nat} {kd : IntKind} {pos : String} {af : Array Edge} {gd : Option (Nat × Bool)} {kk : IntKind} {nn : Int} [hm : TMap P mt kt et kd] (f : α → AV) (hr : r ∈ readsOf ops ⟨some d, .makeMap mt (some (.tmp r)), ty, pos, af, gd⟩ := by decide +kernel) (hq : get t r = some (.val (.int kk nn)) := by rfl) (hn : Nat.blt d n = true := by rfl) :
    Mk P ops n t ⟨some d, .makeMap mt (some (.tmp r)), ty, pos, af, gd⟩ d (fun b => .val (.map (some b))) (fun b => mpV b kd f []) :=
  fun tr h K hg hK => S.mkm f hK (hq := (hg r hr).trans hq) (hn := hn)
theorem get_off {o : Oper} {x y : Nat} {v : AV} (hx : x ∈ readsOf ops o) (hy : inL (readsOf ops o) y = false) : get ((y, v) :: t) x = get t x := by
  rw [get_eq, if_neg]
  intro e
  subst e
  rw [inL_iff.2 hx] at hy; cases hy
theorem get_rd {o : Oper} {x : Nat} (hx : x ∈ readsOf ops o) (t : List (Nat × AV)) : get (restr (readsOf ops o) t) x = get t x := by rw [get_restr, if_pos hx]
theorem R2.fork2 {i j d d' : Nat} {oi oj : Oper} (ki : Step P oi ⟨n, restr (readsOf ops oi) t, h⟩ (fun s' => ∃ v, get s'.t d = some v ∧ R2 ro P ops K n hro (j :: todo) ((d, v) :: t) s'.h)) (kj : Step P oj ⟨n, restr (readsOf ops oj) t, h⟩ (fun s' => ∃ v, get s'.t d' = some v ∧ R2 ro P ops K n hro (i :: todo) ((d', v) :: t) s'.h))
    (hi : ops[i]? = some oi := by rfl) (hj : ops[j]? = some oj := by rfl) (hdi : oi.dst = some d := by rfl) (hdj : oj.dst = some d' := by rfl) (gi : oi.guard = none := by rfl) (gj : oj.guard = none := by rfl)
    (hr : (i :: j :: todo).filter (rdy ops (i :: j :: todo)) = [i, j] := by decide +kernel) (hn : Nat.blt d n = true := by rfl) (hn' : Nat.blt d' n = true := by rfl) (hni : inL (j :: todo) i = false := by rfl) (hnj : inL (i :: todo) j = false := by rfl) : R2 ro P ops K n hro (i :: j :: todo) t h := by
  refine .mk fun hok => DR.core hok (fun e => by cases e) fun q hq hrq => ?_
  have : q ∈ (i :: j :: todo).filter (rdy ops (i :: j :: todo)) := List.mem_filter.2 ⟨hq, hrq⟩
  rw [hr] at this
  simp at this
  rcases this with rfl | rfl
  · rw [readsAt_eq hi]
    refine ⟨_, eop_step hi (wanted_n gi) ki hdi hn, fun v h' hv => ?_⟩
    rw [dstAt_eq hi, hdi]
    exact (hv.go hok).congr (mem_filter_ne hni)
  · rw [readsAt_eq hj]
    refine ⟨_, eop_step hj (wanted_n gj) kj hdj hn', fun v h' hv => ?_⟩
    rw [dstAt_eq hj, hdj]
    refine (hv.go hok).congr fun x => ?_
    rw [← mem_filter_ne hnj x]
    simp only [List.mem_filter, List.mem_cons]
    constructor
    · rintro ⟨h1, h2⟩; exact ⟨by rcases h1 with h1 | h1 | h1 <;> simp [h1], h2⟩
    · rintro ⟨h1, h2⟩; exact ⟨by rcases h1 with h1 | h1 | h1 <;> simp [h1], h2⟩
theorem R2.make3 {i j l d d' d2 : Nat} {oi oj ol : Oper} {vi vj vl : Nat → AV} {ei ej el : Nat → OE} (mi : Mk P ops n t oi d vi ei) (mj : Mk P ops n t oj d' vj ej) (ml : Mk P ops n t ol d2 vl el)
    (k : ∀ b b' b2, R2 ro P ops K n hro todo ((d2, vl b2) :: (d', vj b') :: (d, vi b) :: t) (el b2 :: ej b' :: ei b :: h))
    (kL : ∀ b b', R2 ro P ops K n hro (l :: todo) ((d', vj b') :: (d, vi b) :: t) (ej b' :: ei b :: h))
    (hi : ops[i]? = some oi := by rfl) (hj : ops[j]? = some oj := by rfl) (hl : ops[l]? = some ol := by rfl) (hdi : oi.dst = some d := by rfl) (hdj : oj.dst = some d' := by rfl) (hdl : ol.dst = some d2 := by rfl) (gi : oi.guard = none := by rfl) (gj : oj.guard = none := by rfl) (gl : ol.guard = none := by rfl)
    (hr : (i :: j :: l :: todo).filter (rdy ops (i :: j :: l :: todo)) = [i, j, l] := by decide +kernel)
    (r1 : (j :: l :: todo).filter (rdy ops (j :: l :: todo)) = [j, l] := by decide +kernel) (r2 : (i :: l :: todo).filter (rdy ops (i :: l :: todo)) = [i, l] := by decide +kernel) (r3 : (i :: j :: todo).filter (rdy ops (i :: j :: todo)) = [i, j] := by decide +kernel)
    (s1 : (i :: todo).filter (rdy ops (i :: todo)) = [i] := by decide +kernel) (s2 : (j :: todo).filter (rdy ops (j :: todo)) = [j] := by decide +kernel)
    (hn : Nat.blt d n = true := by rfl) (hn' : Nat.blt d' n = true := by rfl) (hn2 : Nat.blt d2 n = true := by rfl) (h1 : Nat.beq d d' = false := by rfl) (h2 : Nat.beq d d2 = false := by rfl) (h3 : Nat.beq d' d2 = false := by rfl)
    (q1 : inL (j :: l :: todo) i = false := by rfl) (q2 : inL (i :: l :: todo) j = false := by rfl) (q3 : inL (i :: j :: todo) l = false := by rfl)
    (p1 : inL (readsOf ops oi) d' = false := by decide +kernel) (p2 : inL (readsOf ops oi) d2 = false := by decide +kernel) (p3 : inL (readsOf ops oj) d = false := by decide +kernel) (p4 : inL (readsOf ops oj) d2 = false := by decide +kernel) (p5 : inL (readsOf ops ol) d = false := by decide +kernel) (p6 : inL (readsOf ops ol) d' = false := by decide +kernel) : R2 ro P ops K n hro (i :: j :: l :: todo) t h := by
  have n1 : d ≠ d' := fun e => by subst e; simp at h1
  have n2 : d ≠ d2 := fun e => by subst e; simp at h2
  have n3 : d' ≠ d2 := fun e => by subst e; simp at h3
  have a1 : inL (l :: todo) i = false := inL_tail q1
  have a3 : inL (l :: todo) j = false := inL_tail q2
  have a5 : inL (j :: todo) l = false := inL_tail q3
  have skip : ∀ {a b : Nat} {l : List Nat} {x : Nat}, inL (a :: b :: l) x = false → inL (a :: l) x = false := fun {a b l x} hq => by
    cases q : inL (a :: l) x with
    | false => rfl
    | true =>
      rw [← hq]
      refine (inL_iff.2 ?_).symm ▸ rfl
      rcases List.mem_cons.1 (inL_iff.1 q) with e | e
      · rw [e]; exact .head _
      · exact .tail _ (.tail _ e)
  have a2 : inL (j :: todo) i = false := skip q1
  have a4 : inL (i :: todo) j = false := skip q2
  have a6 : inL (i :: todo) l = false := skip q3
  have ki : Step P oi ⟨n, restr (readsOf ops oi) t, h⟩ (fun s' => ∃ v, get s'.t d = some v ∧ R2 ro P ops K n hro (j :: l :: todo) ((d, v) :: t) s'.h) :=
    mi _ _ _ (fun x hx => get_rd hx t) fun b => kd (R2.fork2 (d := d') (d' := d2)
      (mj _ _ _ (fun x hx => (get_rd hx _).trans (get_off hx p3)) fun b' => kd (kL b b'))
      (ml _ _ _ (fun x hx => (get_rd hx _).trans (get_off hx p5)) fun b2 => kd (R2.B (mj _ _ _ (fun x hx => (get_rd hx _).trans ((get_off hx p4).trans (get_off hx p3))) fun b' => kd (((k b b' b2).permh (List.Perm.swap _ _ _)).congt fun x => by
      simp only [get_eq]
      by_cases c1 : d2 = x
      · have e1 : d' ≠ x := fun e => n3 (e.trans c1.symm)
        have e2 : d ≠ x := fun e => n2 (e.trans c1.symm)
        simp [c1, e1, e2]
      · by_cases c2 : d' = x
        · have : d ≠ x := fun e => n1 (e.trans c2.symm)
          simp [c1, c2, this]
        · simp [c1, c2])) hj hdj s2 (wanted_n gj) hn' (inL_tail (inL_tail q2))))
      hj hl hdj hdl gj gl r1 hn' hn2 a3 a5)
  have kj : Step P oj ⟨n, restr (readsOf ops oj) t, h⟩ (fun s' => ∃ v, get s'.t d' = some v ∧ R2 ro P ops K n hro (i :: l :: todo) ((d', v) :: t) s'.h) :=
    mj _ _ _ (fun x hx => get_rd hx t) fun b' => kd (R2.fork2 (d := d) (d' := d2)
      (mi _ _ _ (fun x hx => (get_rd hx _).trans (get_off hx p1)) fun b => kd (((kL b b').permh (List.Perm.swap _ _ _)).congt fun x => by
      simp only [get_eq]
      by_cases c1 : d2 = x
      · have e1 : d' ≠ x := fun e => n3 (e.trans c1.symm)
        have e2 : d ≠ x := fun e => n2 (e.trans c1.symm)
        simp [c1, e1, e2]
      · by_cases c2 : d' = x
        · have : d ≠ x := fun e => n1 (e.trans c2.symm)
          simp [c1, c2, this]
        · simp [c1, c2]))
      (ml _ _ _ (fun x hx => (get_rd hx _).trans (get_off hx p6)) fun b2 => kd (R2.B (mi _ _ _ (fun x hx => (get_rd hx _).trans ((get_off hx p2).trans (get_off hx p1))) fun b => kd (((k b b' b2).permh ((List.Perm.cons _ (List.Perm.swap _ _ _)).trans (List.Perm.swap _ _ _))).congt fun x => by
      simp only [get_eq]
      by_cases c1 : d2 = x
      · have e1 : d' ≠ x := fun e => n3 (e.trans c1.symm)
        have e2 : d ≠ x := fun e => n2 (e.trans c1.symm)
        simp [c1, e1, e2]
      · by_cases c2 : d' = x
        · have : d ≠ x := fun e => n1 (e.trans c2.symm)
          simp [c1, c2, this]
        · simp [c1, c2])) hi hdi s1 (wanted_n gi) hn (inL_tail (inL_tail q1))))
      hi hl hdi hdl gi gl r2 hn hn2 a1 a6)
  have kl : Step P ol ⟨n, restr (readsOf ops ol) t, h⟩ (fun s' => ∃ v, get s'.t d2 = some v ∧ R2 ro P ops K n hro (i :: j :: todo) ((d2, v) :: t) s'.h) :=
    ml _ _ _ (fun x hx => get_rd hx t) fun b2 => kd (R2.fork2 (d := d) (d' := d')
      (mi _ _ _ (fun x hx => (get_rd hx _).trans (get_off hx p2)) fun b => kd (R2.B (mj _ _ _ (fun x hx => (get_rd hx _).trans ((get_off hx p3).trans (get_off hx p4))) fun b' => kd (((k b b' b2).permh ((List.Perm.swap _ _ _).trans (List.Perm.cons _ (List.Perm.swap _ _ _)))).congt fun x => by
      simp only [get_eq]
      by_cases c1 : d2 = x
      · have e1 : d' ≠ x := fun e => n3 (e.trans c1.symm)
        have e2 : d ≠ x := fun e => n2 (e.trans c1.symm)
        simp [c1, e1, e2]
      · by_cases c2 : d' = x
        · have : d ≠ x := fun e => n1 (e.trans c2.symm)
          simp [c1, c2, this]
        · simp [c1, c2])) hj hdj s2 (wanted_n gj) hn' (inL_tail (inL_tail q2))))
      (mj _ _ _ (fun x hx => (get_rd hx _).trans (get_off hx p4)) fun b' => kd (R2.B (mi _ _ _ (fun x hx => (get_rd hx _).trans ((get_off hx p1).trans (get_off hx p2))) fun b => kd (((k b b' b2).permh ((List.Perm.swap _ _ _).trans ((List.Perm.cons _ (List.Perm.swap _ _ _)).trans (List.Perm.swap _ _ _)))).congt fun x => by
      simp only [get_eq]
      by_cases c1 : d2 = x
      · have e1 : d' ≠ x := fun e => n3 (e.trans c1.symm)
        have e2 : d ≠ x := fun e => n2 (e.trans c1.symm)
        simp [c1, e1, e2]
      · by_cases c2 : d' = x
        · have : d ≠ x := fun e => n1 (e.trans c2.symm)
          simp [c1, c2, this]
        · simp [c1, c2])) hi hdi s1 (wanted_n gi) hn (inL_tail (inL_tail q1))))
      hi hj hdi hdj gi gj r3 hn hn' a2 a4)
  refine .mk fun hok => DR.core hok (fun e => by cases e) fun q hq hrq => ?_
  have : q ∈ (i :: j :: l :: todo).filter (rdy ops (i :: j :: l :: todo)) := List.mem_filter.2 ⟨hq, hrq⟩
  rw [hr] at this
  simp at this
  rcases this with rfl | rfl | rfl
  · rw [readsAt_eq hi]
    refine ⟨_, eop_step hi (wanted_n gi) ki hdi hn, fun v h' hv => ?_⟩
    rw [dstAt_eq hi, hdi]
    exact (hv.go hok).congr (mem_filter_ne q1)
  · rw [readsAt_eq hj]
    refine ⟨_, eop_step hj (wanted_n gj) kj hdj hn', fun v h' hv => ?_⟩
    rw [dstAt_eq hj, hdj]
    refine (hv.go hok).congr fun x => ?_
    rw [← mem_filter_ne q2 x]
    simp only [List.mem_filter, List.mem_cons]
    constructor
    · rintro ⟨h1, h2⟩; exact ⟨by rcases h1 with h1 | h1 | h1 | h1 <;> simp [h1], h2⟩
    · rintro ⟨h1, h2⟩; exact ⟨by rcases h1 with h1 | h1 | h1 | h1 <;> simp [h1], h2⟩
  · rw [readsAt_eq hl]
    refine ⟨_, eop_step hl (wanted_n gl) kl hdl hn2, fun v h' hv => ?_⟩
    rw [dstAt_eq hl, hdl]
    refine (hv.go hok).congr fun x => ?_
    rw [← mem_filter_ne q3 x]
    simp only [List.mem_filter, List.mem_cons]
    constructor
    · rintro ⟨h1, h2⟩; exact ⟨by rcases h1 with h1 | h1 | h1 | h1 <;> simp [h1], h2⟩
    · rintro ⟨h1, h2⟩; exact ⟨by rcases h1 with h1 | h1 | h1 | h1 <;> simp [h1], h2⟩
end
end Go.VM

/- What clients have selected: isMask, copied, Who, Mask. No condition. -/
namespace Go.Proofs.YtbknacpdcdkjiaaGreat
open Go Go.VM
set_option maxRecDepth 100000
attribute [local irreducible] PurV Pur Step RL W D ACalls Then InBlock Fini
set_option linter.unusedVariables false
set_option linter.unusedSimpArgs false
set_option maxHeartbeats 20000000
instance teq_key : TEqS Tryz.prog 143 [true, true] := ⟨by kernel_rfl, by kernel_rfl, by kernel_rfl, by kernel_rfl⟩
instance tmap_key : TMapK Tryz.prog 33 143 3 := ⟨by kernel_rfl, inferInstance, ck_of (q1 := .i64) (q2 := .u32) (show Tryz.prog.underlying 143 = some (.struct #[(Tryz.prog.fieldsOf 143)[0]!, (Tryz.prog.fieldsOf 143)[1]!]) by kernel_rfl) (by kernel_rfl) (by kernel_rfl) (by kernel_rfl) (by kernel_rfl) (by kernel_rfl) (by kernel_rfl) (by kernel_rfl) (by kernel_rfl)⟩
abbrev CM := List (KY × Int)
abbrev CS := List (Int × Int)
def encC (M : CM) (S : CS) : AV := .agg [mapK (vI .i64) M, mapV .u32 (vI .i64) S]
theorem ismask_c (n : Int) (h : Heap) : ACalls Tryz.prog 66 [.val (.int .i64 (n))] h (fun r h' => r = .val (.bool (decide (0 ≤ n ∧ n ≤ 8191))) ∧ h' = h) := by
  refine ACalls.intro Tryz.func66 rfl Tryz.ntmps66 Tryz.results66 (Nat.le_of_ble_eq_true rfl) ?_
  by_cases h1 : 0 ≤ n
  · (repeat' (first|refine svz ⟨fun b hq=>?_⟩|refine svA ⟨?_⟩|refine svu ⟨fun u=>?_⟩|(refine svG (fun hg=>?_) (fun hg=>?_)<;>try exact svx)|refine svh (fun hb=>?_) (fun hb=>?_)|refine svb (fun b=>?_)|fail))
    refine fin_r (h' := h) ⟨?_, rfl⟩; simp [tupA, h1]
  · (repeat' (first|refine svz ⟨fun b hq=>?_⟩|refine svA ⟨?_⟩|refine svu ⟨fun u=>?_⟩|(refine svG (fun hg=>?_) (fun hg=>?_)<;>try exact svx)|refine svh (fun hb=>?_) (fun hb=>?_)|refine svb (fun b=>?_)|fail))
    refine fin_r (h' := h) ⟨?_, rfl⟩; simp [tupA, h1]
theorem putK_new {α : Type} {t : List (KY × α)} {i : KY} (a : α) (h : i ∉ t.map (·.1)) : putK t i a = t ++ [(i, a)] := by
  unfold putK
  have : lkK t i = none := lkK_none.2 fun p hp e => h (e ▸ List.mem_map_of_mem hp)
  rw [this]; rfl
theorem leh_mpk {α : Type} {b : Nat} {f : α → AV} {t t' : List (KY × α)} {h h' : Heap} (hp : t.Perm t') (k : LeH h h') : LeH (mpK b f t :: h) (mpK b f t' :: h') := by
  have := LeH.mapp (b := b) (x := t.map fun p => (kv p.1, f p.2)) (y := t'.map fun p => (kv p.1, f p.2)) (h := mpK b f t :: h) (r := h) (h' := h') (by simp only [List.map_map]; exact .here) (hp.map _) k
  simp only [List.map_map] at this
  exact this
theorem cpyk_c (bm : Nat) (s : CM) (h : Heap) (hn : (s.map (·.1)).Nodup) : ACalls Tryz.prog 100 [.val (.map (some bm)), mapK (vI .i64) s] (mpK bm (vI .i64) ([] : CM) :: h) (fun r h' => r = .tup [] ∧ h' = mpK bm (vI .i64) s :: h) := by
  refine ACalls.intro Tryz.func100 rfl Tryz.ntmps100 Tryz.results100 (Nat.le_of_ble_eq_true rfl) ?_
  (repeat' (first|refine svz ⟨fun b hq=>?_⟩|refine svA ⟨?_⟩|refine svu ⟨fun u=>?_⟩|(refine svG (fun hg=>?_) (fun hg=>?_)<;>try exact svx)|refine svh (fun hb=>?_) (fun hb=>?_)|refine svb (fun b=>?_)|fail))
  refine S.rngK (fun b7 => ?_)
  (repeat' (first|refine svz ⟨fun b hq=>?_⟩|refine svA ⟨?_⟩|refine svu ⟨fun u=>?_⟩|(refine svG (fun hg=>?_) (fun hg=>?_)<;>try exact svx)|refine svh (fun hb=>?_) (fun hb=>?_)|refine svb (fun b=>?_)|fail))
  refine W.loop (J := fun x : List Nat × Option Nat × CM => ⟨16, [(7, .val (.pointer (some ⟨b7, 0, none⟩))), (0, .val (.map (some bm)))], mitK b7 (vI .i64) s x.1 x.2.1 :: mpK bm (vI .i64) x.2.2 :: h⟩)
    (Φ := fun x => (x.2.2 ++ remL s x.1).Perm s) (μ := fun x => x.1.length) (List.range s.length, none, []) lee (rng_start s) ?_
  rintro ⟨left, last, done⟩ hp
  dsimp only at hp ⊢
  (repeat' (first|refine svz ⟨fun b hq=>?_⟩|refine svA ⟨?_⟩|refine svu ⟨fun u=>?_⟩|(refine svG (fun hg=>?_) (fun hg=>?_)<;>try exact svx)|refine svh (fun hb=>?_) (fun hb=>?_)|refine svb (fun b=>?_)|fail))
  refine S.nextK (fun hl => ?_) (fun i p hi hpi => ?_)
  · have hd := rng_end hp hl
    (repeat' (first|refine svz ⟨fun b hq=>?_⟩|refine svA ⟨?_⟩|refine svu ⟨fun u=>?_⟩|(refine svG (fun hg=>?_) (fun hg=>?_)<;>try exact svx)|refine svh (fun hb=>?_) (fun hb=>?_)|refine svb (fun b=>?_)|fail))
    exact fin_n (h' := mpK bm (vI .i64) s :: h) ⟨rfl, rfl⟩ (h2 := .skip (leh_mpk hd (.refl _)))
  · have hst := rng_step hp hi hpi
    have hnd := (hst.map (·.1)).nodup_iff.2 hn
    rw [List.map_append, List.map_append, List.append_assoc, List.nodup_append] at hnd
    have hnew : p.1 ∉ done.map (·.1) := fun hm => hnd.2.2 p.1 hm p.1 (by simp) rfl
    (repeat' (first|refine svz ⟨fun b hq=>?_⟩|refine svA ⟨?_⟩|refine svu ⟨fun u=>?_⟩|(refine svG (fun hg=>?_) (fun hg=>?_)<;>try exact svx)|refine svh (fun hb=>?_) (fun hb=>?_)|refine svb (fun b=>?_)|fail))
    refine step_pur (pur_entryK rfl (by (fail_if_success (apply memG)); repeat (first | exact List.Mem.head _ | assumption | refine List.Mem.tail _ ?_)) hpi) rfl ?_
    (repeat' (first|refine svz ⟨fun b hq=>?_⟩|refine svA ⟨?_⟩|refine svu ⟨fun u=>?_⟩|(refine svG (fun hg=>?_) (fun hg=>?_)<;>try exact svx)|refine svh (fun hb=>?_) (fun hb=>?_)|refine svb (fun b=>?_)|fail))
    refine S.mapUK (i := p.1) (f := vI .i64) (m := done) (a := p.2) ?_
    (repeat' (first|refine svz ⟨fun b hq=>?_⟩|refine svA ⟨?_⟩|refine svu ⟨fun u=>?_⟩|(refine svG (fun hg=>?_) (fun hg=>?_)<;>try exact svx)|refine svh (fun hb=>?_) (fun hb=>?_)|refine svb (fun b=>?_)|fail))
    rw [putK_new p.2 hnew]
    exact ⟨(left.erase i, some i, done ++ [p]), hst, lee, rng_less hi⟩
end Go.Proofs.YtbknacpdcdkjiaaGreat
