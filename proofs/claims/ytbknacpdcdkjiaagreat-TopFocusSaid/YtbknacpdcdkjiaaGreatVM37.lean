import Derived.Test.YtbknacpdcdkjiaaGreatZ11
import Derived.Test.YtbknacpdcdkjiaaGreatU4
import Derived.Test.YtbknacpdcdkjiaaGreatZ5

/- Views: Visible, Clip, Origin, Windows; expose.One. No condition. -/
namespace Go.Proofs.YtbknacpdcdkjiaaGreat
open Go Go.VM
attribute [local irreducible] PurV Pur Step RL W D ACalls Then InBlock Fini
set_option linter.unusedVariables false
set_option linter.unusedSimpArgs false
set_option maxHeartbeats 20000000
def encW (o : List Int) (V : List (Int × SW)) : AV := .agg [.ro 1 (ints .u32 (o)), mapV .u32 vSW V]
def clF (V : List (Int × SW)) (id : Int) : List RC := match lkF V id with | none => [] | some s => s.clip
def VOk (V : List (Int × SW)) : Prop := ∀ id s, lkF V id = some s → Bx 0 16 s.clip ∧ (-100000 ≤ s.x ∧ s.x ≤ 100000) ∧ -100000 ≤ s.y ∧ s.y ≤ 100000
set_option maxRecDepth 100000 in
theorem vorig_c (o : List Int) (V : List (Int × SW)) (id : Int) (s : SW) (h : Heap) (e : lkF V id = some s) : ACalls Tryz.prog 88 [encW o V, .val (.int .u32 (id))] h (fun r h' => r = .tup [.agg [.val (.int .i64 (s.x)), .val (.int .i64 (s.y))], .val (.bool (true))] ∧ h' = h) := by
  unfold encW
  refine ACalls.intro Tryz.func88 rfl Tryz.ntmps88 Tryz.results88 (Nat.le_of_ble_eq_true rfl) ?_
  (repeat' (first|refine svz ⟨fun b hq=>?_⟩|refine svA ⟨?_⟩|refine svu ⟨fun u=>?_⟩|(refine svG (fun hg=>?_) (fun hg=>?_)<;>try exact svx)|refine svh (fun hb=>?_) (fun hb=>?_)|refine svb (fun b=>?_)|fail))
  rw [show lkV vSW (.agg [.val (.int .i64 (0)), .val (.int .i64 (0)), .val (.slice none 0 0)]) (lkF V id) = vSW s by rw [e]; rfl, e]
  unfold vSW
  (repeat' (first|refine svz ⟨fun b hq=>?_⟩|refine svA ⟨?_⟩|refine svu ⟨fun u=>?_⟩|(refine svG (fun hg=>?_) (fun hg=>?_)<;>try exact svx)|refine svh (fun hb=>?_) (fun hb=>?_)|refine svb (fun b=>?_)|fail))
  exact fin_r (h' := h) ⟨rfl, rfl⟩
structure CH where
  (id : Int) (kept nw : List RC)
end Go.Proofs.YtbknacpdcdkjiaaGreat

/- Three variables made in a region that draws its order. No condition. -/
namespace Go.VM
open Go
set_option linter.unusedVariables false
set_option linter.unusedSimpArgs false
section
variable {ro : Option Nat} {P : Program} {n : Nat} {t : List (Nat × AV)} {h : Heap} {K : St → Prop} {ops : Array Oper} {hro : Heap} {todo : List Nat} {i : Nat} {d : Nat} {ty : Nat} {pos : String} {af : Array Edge}
theorem inL_tail {j : Nat} {l : List Nat} (h : inL (j :: l) i = false) : inL l i = false := by
  cases q : inL l i with
  | false => rfl
  | true => rw [← h]; exact (inL_iff.2 (.tail _ (inL_iff.1 q))).symm ▸ rfl
end
end Go.VM

/- Structs of numbers and bools: == and !=. No condition. -/
namespace Go.VM
open Go
set_option linter.unusedVariables false
set_option linter.unusedSimpArgs false
inductive Scl where
  | i (k : IntKind) (a b : Int)
  | b (a b : Bool)
def Scl.l : Scl → Value
  | .i k x _ => .int k x
  | .b x _ => .bool x
def Scl.r : Scl → Value
  | .i k _ z => .int k z
  | .b _ z => .bool z
def Scl.eq : Scl → Bool
  | .i _ x z => x == z
  | .b x z => x == z
def Scl.isI : Scl → Bool
  | .i _ _ _ => true
  | .b _ _ => false
def flatQ (P : Program) : Nat → List Field → List Bool → Bool
  | _, [], [] => true
  | i, f :: fs, s :: ss => !(f.name == "_") && (Nat.beq f.offset i && ((match valQ P f.type with | some (false, _) => true | _ => false) && ((match P.underlying f.type with | some (.int _) => s | some .bool => !s | _ => false) && flatQ P (i + 1) fs ss)))
  | _, _, _ => false
theorem eqQ {P : Program} {w : World} {d : Nat} : ∀ (fs : List Field) (L : List Scl) (i : Nat) (pre pre' : List Value), pre.length = i → pre'.length = i → flatQ P i fs (L.map Scl.isI) = true →
    (Op.eqFields (d + 1) (pre ++ L.map Scl.l).toArray (pre' ++ L.map Scl.r).toArray fs).run P w = .ok (L.all Scl.eq) w
  | [], [], i, pre, pre', _, _, _ => by simp [Op.eqFields]
  | [], _ :: _, i, pre, pre', _, _, hf => by cases hf
  | _ :: _, [], i, pre, pre', _, _, hf => by cases hf
  | f :: fs, s :: L, i, pre, pre', h1, h2, hf => by
    rw [List.map_cons] at hf
    unfold flatQ at hf
    simp only [Bool.and_eq_true, Bool.not_eq_true', beq_eq_false_iff_ne, ne_eq] at hf
    obtain ⟨f1, f2, f3, f4, f5⟩ := hf
    have f2 := Nat.eq_of_beq_eq_true f2
    obtain ⟨n, hv⟩ : ∃ n, valQ P f.type = some (false, n) := by
      split at f3
      · exact ⟨_, by assumption⟩
      · cases f3
    have hn := (valQ_spec hv).2.2 rfl
    subst hn
    have p1 : (part f.type (pre ++ (s :: L).map Scl.l).toArray f.offset).run P w = .ok s.l w := by
      rw [run_part hv (by simp [f2, h1]), f2]
      simp [List.drop_append, ← h1, mk]
    have p2 : (part f.type (pre' ++ (s :: L).map Scl.r).toArray f.offset).run P w = .ok s.r w := by
      rw [run_part hv (by simp [f2, h2]), f2]
      simp [List.drop_append, ← h2, mk]
    have ih := eqQ (P := P) (w := w) (d := d) fs L (i + 1) (pre ++ [s.l]) (pre' ++ [s.r]) (by simp [h1]) (by simp [h2]) f5
    simp only [List.append_assoc, List.singleton_append] at ih
    have he : (Op.equalIn (d + 1) f.type s.l s.r).run P w = .ok s.eq w := by
      cases s with
      | i k a b =>
        obtain ⟨k', hk⟩ : ∃ k', P.underlying f.type = some (.int k') := by
          split at f4
          · exact ⟨_, by assumption⟩
          · cases f4
          · cases f4
        exact run_equalIn_int (P := P) w d f.type k k' a b hk
      | b a b =>
        have hk : P.underlying f.type = some .bool := by
          split at f4
          · cases f4
          · assumption
          · cases f4
        exact run_equalIn_bool' (P := P) w d f.type a b hk
    unfold Op.eqFields
    rw [if_pos f1]
    simp only [Sem.run_bind, p1, p2, Result.andThen_ok, he]
    rw [List.all_cons]
    cases hs : s.eq with
    | true => simp [ih]
    | false => simp
class TEqS (P : Program) (t : Nat) (sh : outParam (List Bool)) : Prop where
  h : P.underlying t = some (.struct (P.fieldsOf t))
  s : P.stoodInHeld t = false
  g : P.eqGuardType P.depth t = false
  f : flatQ P 0 (P.fieldsOf t).toList sh = true
inductive IEqS : List AV → List AV → List Scl → Prop
  | nil : IEqS [] [] []
  | i {k : IntKind} {a b : Int} {x y : List AV} {L : List Scl} (h : IEqS x y L) : IEqS (.val (.int k a) :: x) (.val (.int k b) :: y) (.i k a b :: L)
  | b {a b : Bool} {x y : List AV} {L : List Scl} (h : IEqS x y L) : IEqS (.val (.bool a) :: x) (.val (.bool b) :: y) (.b a b :: L)
theorem IEqS.rel {m : Ghost} {x y : List AV} {L : List Scl} (h : IEqS x y L) : ∀ {cs ds : List Value}, RelL m x cs → RelL m y ds → cs = L.map Scl.l ∧ ds = L.map Scl.r := by
  induction h with
  | nil => intro cs ds h1 h2; simp only [RelL] at h1 h2; subst h1; subst h2; exact ⟨rfl, rfl⟩
  | i h ih =>
    intro cs ds h1 h2
    simp only [RelL, Rel] at h1 h2
    obtain ⟨c, r, rfl, ⟨rfl, _⟩, h1⟩ := h1
    obtain ⟨c', r', rfl, ⟨rfl, _⟩, h2⟩ := h2
    obtain ⟨rfl, rfl⟩ := ih h1 h2
    exact ⟨rfl, rfl⟩
  | b h ih =>
    intro cs ds h1 h2
    simp only [RelL, Rel] at h1 h2
    obtain ⟨c, r, rfl, ⟨rfl, _⟩, h1⟩ := h1
    obtain ⟨c', r', rfl, ⟨rfl, _⟩, h2⟩ := h2
    obtain ⟨rfl, rfl⟩ := ih h1 h2
    exact ⟨rfl, rfl⟩
section
variable {P : Program} {d : Option Nat} {ty : Nat} {pos : String} {af : Array Edge} {gd : Option (Nat × Bool)} {tm : List (Nat × AV)} {h : Heap} {x y : Operand} {xt yt : Nat} {l l' : List AV} {L : List Scl} {sh : List Bool} {p : Bool}
theorem eqS_key [ht : TEqS P xt sh] {m : Ghost} {cs ds : Array Value} (hx : RelL m l cs.toList) (hy : RelL m l' ds.toList) (he : IEqS l l' L) (hn : L.map Scl.isI = sh) (hp : L.all Scl.eq = p) (w : World) : (Op.equalIn (9999 + 1) xt (.agg cs) (.agg ds)).run P w = .ok p w := by
  obtain ⟨e1, e2⟩ := he.rel hx hy
  have key := eqQ (P := P) (w := w) (d := 9998) (P.fieldsOf xt).toList L 0 [] [] rfl rfl (by rw [hn]; exact ht.f)
  rw [List.nil_append, List.nil_append, ← e1, ← e2, hp] at key
  simp only [Array.toArray_toList] at key
  have k2 := run_equalIn_struct (P := P) w 9999 xt cs ds ht.h ht.s
  rw [key] at k2
  exact k2
end
end Go.VM
