import Derived.Test.YtbknacpdcdkjiaaGreatVM29
import Derived.Test.YtbknacpdcdkjiaaGreatB7
import Derived.Test.YtbknacpdcdkjiaaGreatVM37
import Derived.Test.YtbknacpdcdkjiaaGreatU4
/- Devices that can be grabbed, and frozen. No condition. -/
namespace Go.Proofs.YtbknacpdcdkjiaaGreat
open Go Go.VM
attribute [local irreducible] PurV Pur Step RL W D ACalls Then InBlock Fini
set_option linter.unusedVariables false
set_option linter.unusedSimpArgs false
set_option maxHeartbeats 20000000
structure IN where
  (k c x y t n : Int)
def IN.z : IN := ⟨0, 0, 0, 0, 0, 0⟩
def IN.enc (i : IN) : AV := .agg [.val (.int .i64 (i.k)), .val (.int .i64 (i.c)), .val (.int .i64 (i.x)), .val (.int .i64 (i.y)), .val (.int .u32 (i.t)), .val (.int .i64 (i.n))]
theorem IN.enc_eq (i : IN) : i.enc = .agg [.val (.int .i64 ((i).k)), .val (.int .i64 ((i).c)), .val (.int .i64 ((i).x)), .val (.int .i64 ((i).y)), .val (.int .u32 ((i).t)), .val (.int .i64 ((i).n))] := rfl
structure AC where
  (cl w : Int) (ow : Bool) (mask : Int) (au pa : Bool) (code time : Int)
def AC.z : AC := ⟨0, 0, false, 0, false, false, 0, 0⟩
def AC.enc (a : AC) : AV := .agg [.val (.int .i64 (a.cl)), .val (.int .u32 (a.w)), .val (.bool (a.ow)), .val (.int .i64 (a.mask)), .val (.bool (a.au)), .val (.bool (a.pa)), .val (.int .i64 (a.code)), .val (.int .u32 (a.time))]
structure DV where
  (a : AC) (g f s : Bool) (held : IN) (hs : Bool) (ws : List IN)
def DV.enc (d : DV) : AV := .agg [.val (.int .i64 (d.a.cl)), .val (.int .u32 (d.a.w)), .val (.bool (d.a.ow)), .val (.int .i64 (d.a.mask)), .val (.bool (d.a.au)), .val (.bool (d.a.pa)), .val (.int .i64 (d.a.code)), .val (.int .u32 (d.a.time)), .val (.bool (d.g)), .val (.bool (d.f)), .val (.bool (d.s)), .val (.int .i64 (d.held.k)), .val (.int .i64 (d.held.c)), .val (.int .i64 (d.held.x)), .val (.int .i64 (d.held.y)), .val (.int .u32 (d.held.t)), .val (.int .i64 (d.held.n)), .val (.bool (d.hs)), .ro 6 (d.ws.map IN.enc)]
def DV.begin (d : DV) (a : AC) (f : Bool) : DV := ⟨a, true, f, false, IN.z, false, d.ws⟩
def DV.freeze (d : DV) : DV := ⟨d.a, d.g, true, false, d.held, d.hs, d.ws⟩
def DV.hold (d : DV) (i : IN) : DV := ⟨d.a, d.g, d.f, d.s, i, true, d.ws⟩
set_option maxRecDepth 100000 in
theorem begin_c (d : DV) (a : AC) (f : Bool) (h : Heap) : ACalls Tryz.prog 9 [d.enc, a.enc, .val (.bool (f))] h (fun r h' => r = (d.begin a f).enc ∧ h' = h) := by
  unfold DV.enc AC.enc
  refine ACalls.intro Tryz.func9 rfl Tryz.ntmps9 Tryz.results9 (Nat.le_of_ble_eq_true rfl) ?_
  (repeat' (first|refine svz ⟨fun b hq=>?_⟩|refine svA ⟨?_⟩|refine svu ⟨fun u=>?_⟩|(refine svG (fun hg=>?_) (fun hg=>?_)<;>try exact svx)|refine svh (fun hb=>?_) (fun hb=>?_)|refine svb (fun b=>?_)|fail))
  refine fin_r (h' := h) (Q := fun r h' => r = _ ∧ h' = h) ?_; exact ⟨rfl, rfl⟩
set_option maxRecDepth 100000 in
theorem freeze_c (d : DV) (h : Heap) : ACalls Tryz.prog 52 [d.enc] h (fun r h' => r = d.freeze.enc ∧ h' = h) := by
  unfold DV.enc
  refine ACalls.intro Tryz.func52 rfl Tryz.ntmps52 Tryz.results52 (Nat.le_of_ble_eq_true rfl) ?_
  (repeat' (first|refine svz ⟨fun b hq=>?_⟩|refine svA ⟨?_⟩|refine svu ⟨fun u=>?_⟩|(refine svG (fun hg=>?_) (fun hg=>?_)<;>try exact svx)|refine svh (fun hb=>?_) (fun hb=>?_)|refine svb (fun b=>?_)|fail))
  refine fin_r (h' := h) (Q := fun r h' => r = _ ∧ h' = h) ?_; exact ⟨rfl, rfl⟩
set_option maxRecDepth 100000 in
theorem active_c (d : DV) (h : Heap) : ACalls Tryz.prog 53 [d.enc] h (fun r h' => r = .tup [d.a.enc, .val (.bool (d.g))] ∧ h' = h) := by
  unfold DV.enc AC.enc
  refine ACalls.intro Tryz.func53 rfl Tryz.ntmps53 Tryz.results53 (Nat.le_of_ble_eq_true rfl) ?_
  (repeat' (first|refine svz ⟨fun b hq=>?_⟩|refine svA ⟨?_⟩|refine svu ⟨fun u=>?_⟩|(refine svG (fun hg=>?_) (fun hg=>?_)<;>try exact svx)|refine svh (fun hb=>?_) (fun hb=>?_)|refine svb (fun b=>?_)|fail))
  refine W.dr (.rw (.ro (.done _))) ?_
  (repeat' (first|refine svz ⟨fun b hq=>?_⟩|refine svA ⟨?_⟩|refine svu ⟨fun u=>?_⟩|(refine svG (fun hg=>?_) (fun hg=>?_)<;>try exact svx)|refine svh (fun hb=>?_) (fun hb=>?_)|refine svb (fun b=>?_)|fail))
  refine fin_r (h' := h) (Q := fun r h' => r = _ ∧ h' = h) ?_; exact ⟨rfl, rfl⟩
set_option maxRecDepth 100000 in
theorem frozen_c (d : DV) (h : Heap) : ACalls Tryz.prog 91 [d.enc] h (fun r h' => r = .val (.bool (d.f)) ∧ h' = h) := by
  unfold DV.enc
  refine ACalls.intro Tryz.func91 rfl Tryz.ntmps91 Tryz.results91 (Nat.le_of_ble_eq_true rfl) ?_
  (repeat' (first|refine svz ⟨fun b hq=>?_⟩|refine svA ⟨?_⟩|refine svu ⟨fun u=>?_⟩|(refine svG (fun hg=>?_) (fun hg=>?_)<;>try exact svx)|refine svh (fun hb=>?_) (fun hb=>?_)|refine svb (fun b=>?_)|fail))
  refine fin_r (h' := h) (Q := fun r h' => r = _ ∧ h' = h) ?_; exact ⟨rfl, rfl⟩
set_option maxRecDepth 100000 in
theorem stepping_c (d : DV) (h : Heap) : ACalls Tryz.prog 118 [d.enc] h (fun r h' => r = .val (.bool (d.s)) ∧ h' = h) := by
  unfold DV.enc
  refine ACalls.intro Tryz.func118 rfl Tryz.ntmps118 Tryz.results118 (Nat.le_of_ble_eq_true rfl) ?_
  (repeat' (first|refine svz ⟨fun b hq=>?_⟩|refine svA ⟨?_⟩|refine svu ⟨fun u=>?_⟩|(refine svG (fun hg=>?_) (fun hg=>?_)<;>try exact svx)|refine svh (fun hb=>?_) (fun hb=>?_)|refine svb (fun b=>?_)|fail))
  refine fin_r (h' := h) (Q := fun r h' => r = _ ∧ h' = h) ?_; exact ⟨rfl, rfl⟩
set_option maxRecDepth 100000 in
theorem hold_c (d : DV) (i : IN) (h : Heap) : ACalls Tryz.prog 119 [d.enc, i.enc] h (fun r h' => r = (d.hold i).enc ∧ h' = h) := by
  unfold DV.enc
  rw [IN.enc_eq i]
  refine ACalls.intro Tryz.func119 rfl Tryz.ntmps119 Tryz.results119 (Nat.le_of_ble_eq_true rfl) ?_
  (repeat' (first|refine svz ⟨fun b hq=>?_⟩|refine svA ⟨?_⟩|refine svu ⟨fun u=>?_⟩|(refine svG (fun hg=>?_) (fun hg=>?_)<;>try exact svx)|refine svh (fun hb=>?_) (fun hb=>?_)|refine svb (fun b=>?_)|fail))
  refine S.store_any ?_ (hl := Nat.le_of_ble_eq_true rfl)
  (repeat' (first|refine svz ⟨fun b hq=>?_⟩|refine svA ⟨?_⟩|refine svu ⟨fun u=>?_⟩|(refine svG (fun hg=>?_) (fun hg=>?_)<;>try exact svx)|refine svh (fun hb=>?_) (fun hb=>?_)|refine svb (fun b=>?_)|fail))
  refine fin_r (h' := h) (Q := fun r h' => r = _ ∧ h' = h) ?_; exact ⟨rfl, rfl⟩
set_option maxRecDepth 100000 in
theorem clnin_c0 (l : List IN) (h : Heap) (hl : l.length ≤ 1000000000) : ACalls Tryz.prog 57 [.ro 6 (l.map IN.enc)] h (fun r h' => (r = .val (.slice none 0 0) ∧ l = [] ∧ h' = h) ∨ ∃ v, r = .val v ∧ h' = .own v 6 (l.map IN.enc) 47 :: h) := by
  refine ACalls.intro Tryz.func57 rfl Tryz.ntmps57 Tryz.results57 (Nat.le_of_ble_eq_true rfl) ?_
  (repeat' (first|refine svz ⟨fun b hq=>?_⟩|refine svA ⟨?_⟩|refine svu ⟨fun u=>?_⟩|(refine svG (fun hg=>?_) (fun hg=>?_)<;>try exact svx)|refine svh (fun hb=>?_) (fun hb=>?_)|refine svb (fun b=>?_)|fail))
  · have : l = [] := by simpa using hq (by assumption)
    exact fin_r (h' := h) (.inl ⟨rfl, this, rfl⟩)
  · exact fin_r (h' := .own u 6 (l.map IN.enc) 47 :: h) (.inr ⟨u, rfl, rfl⟩)
theorem clnin_c (l : List IN) (h : Heap) (hl : l.length ≤ 1000000000) : ACalls Tryz.prog 57 [.ro 6 (l.map IN.enc)] h (fun r h' => r = .ro 6 (l.map IN.enc) ∧ h' = h) := by
  refine ((clnin_c0 l h hl).wk (Q' := fun r h' => (r = .ro 6 (l.map IN.enc) ∧ h' = h) ∨ ∃ v, r = .val v ∧ h' = .own v 6 (l.map IN.enc) 47 :: h) ?_).frzo ?_
  · rintro r h' (⟨rfl, rfl, rfl⟩ | ⟨v, rfl, rfl⟩)
    · exact ⟨_, .nilr 6, .inl ⟨rfl, rfl⟩⟩
    · exact ⟨_, .refl _, .inr ⟨v, rfl, rfl⟩⟩
  · rintro r h' (⟨rfl, rfl⟩ | ⟨v, rfl, rfl⟩)
    · exact .inl ⟨rfl, rfl⟩
    · exact .inr ⟨v, 6, _, _, _, h, .here, .hit, rfl, rfl⟩
end Go.Proofs.YtbknacpdcdkjiaaGreat

/- Arrays made of parts. No condition. -/
namespace Go.VM
open Go
set_option linter.unusedVariables false
set_option linter.unusedSimpArgs false
theorem fill_congr {f g : Nat → Option (Nat × Nat)} (hfg : ∀ i x, f i = some x → g i = some x) : ∀ (vs : List (Nat × Value)) (cs cs' : Array Value), Instr.fill f cs vs = some cs' → Instr.fill g cs vs = some cs'
  | [], cs, cs', h => by simpa [Instr.fill] using h
  | (i, u) :: vs, cs, cs', h => by
    simp only [Instr.fill] at h ⊢
    cases hf : f i with
    | none => rw [hf] at h; cases h
    | some p =>
      rw [hf] at h
      rw [hfg i p hf]
      dsimp only at h ⊢
      split at h
      · cases h
      · rename_i hc
        rw [if_neg hc]
        exact fill_congr hfg vs _ cs' h
section
variable {P : Program} {d : Option Nat} {ty : Nat} {pos : String} {af : Array Edge} {gd : Option (Nat × Bool)} {tm : List (Nat × AV)} {h : Heap}
end
end Go.VM

/- Method values: functions with their first arguments. No condition. -/
namespace Go.VM
open Go
set_option linter.unusedVariables false
set_option linter.unusedSimpArgs false
section
variable {ro : Option Nat} {P : Program} {n : Nat} {t : List (Nat × AV)} {h : Heap} {K : St → Prop} {d : Nat} {ty : Nat} {pos : String} {af : Array Edge} {gd : Option (Nat × Bool)} {x y : Operand}
end
end Go.VM

/- Arrays made of parts that have several cells. No condition. -/
namespace Go.VM
open Go
set_option linter.unusedVariables false
set_option linter.unusedSimpArgs false
section
variable {P : Program} {d : Option Nat} {ty : Nat} {pos : String} {af : Array Edge} {gd : Option (Nat × Bool)} {tm : List (Nat × AV)} {h : Heap}
theorem pur_buildark {bt nn e k : Nat} {g : Bool} {z z' : List AV} {ps : Array (Nat × Operand)} {vs : List (Nat × AV)} [hz : TZero P bt z] [ha : TArr P bt nn e k g] (hx : EvalP tm ps.toList vs) (hf : fillA ((List.range nn).map fun i => (i * k, k)) z vs = some z') : PurV P ⟨d, .build bt ps, ty, pos, af, gd⟩ tm h (.agg z') := by
  intro m a w0 ht g1 g2
  obtain ⟨i, v, hi, hv, rfl, hsz, hone⟩ := zeroQ_spec hz.h
  obtain ⟨h1, h2⟩ := hx.spec ht
  obtain ⟨cs', h3, h4⟩ := fill_rel vs (ps.toList.map fun (i, x) => (i, a.eval x)) _ z' v.cells (relL_vals m _ hone) h1 h2 hf
  refine ⟨.agg cs', by simp only [Rel]; exact ⟨_, rfl, h4⟩, fun w => ?_⟩
  obtain ⟨_, ⟨ie, hie, hs⟩, _⟩ := valQ_spec ha.v
  have h5 := fill_congr (g := fun i => some (i * ie.size, ie.size)) (fun i x hx => by
    rw [hs]
    rw [List.getElem?_map] at hx
    cases hr : (List.range nn)[i]? with
    | none => rw [hr] at hx; cases hx
    | some j =>
      rw [hr] at hx
      obtain ⟨hj, e⟩ := List.getElem?_eq_some_iff.1 hr
      rw [List.getElem_range] at e
      subst e
      exact hx) _ _ _ h3
  have hb : P.built bt (ps.map fun (i, x) => (i, a.eval x)).toList = some cs' := by
    simp only [Program.built, hi, ha.h, hv, hie]
    simpa using h5
  simp [execOp, run_build w bt _ cs' hb]
end
end Go.VM
