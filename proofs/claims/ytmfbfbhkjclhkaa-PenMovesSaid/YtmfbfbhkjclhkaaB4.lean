import Derived.Test.YtmfbfbhkjclhkaaTy
import Derived.Test.YtmfbfbhkjclhkaaU3
import Derived.Test.YtmfbfbhkjclhkaaU4
namespace Go.Proofs
open Go Go.VM
set_option maxRecDepth 100000
instance : TBool Try.prog 4 := ⟨by kernel_rfl⟩
end Go.Proofs

/- Rectangles: which count, and what they have: band's and the reference's. No condition. -/
namespace Go.Proofs.Ytmfbfbhkjclhkaa
open Go Go.VM
attribute [local irreducible] PurV Pur Step RL W D ACalls Then InBlock Fini
set_option linter.unusedVariables false
set_option linter.unusedSimpArgs false
set_option maxHeartbeats 20000000
structure RC where
  x : Int
  y : Int
  w : Int
  h : Int
  deriving DecidableEq
def RC.enc (r : RC) : AV := .agg [.val (.int .i64 r.x), .val (.int .i64 r.y), .val (.int .i64 r.w), .val (.int .i64 r.h)]
/-- A number of Go's type int. -/
def I64 (n : Int) : Prop := -9223372036854775808 ≤ n ∧ n ≤ 9223372036854775807
structure RC.ok (r : RC) : Prop where
  x : I64 r.x
  y : I64 r.y
  w : I64 r.w
  h : I64 r.h
def fitP (a n : Int) : Prop := -1048576 ≤ a ∧ 0 < n ∧ a + n ≤ 1048576
instance (a n : Int) : Decidable (fitP a n) := inferInstanceAs (Decidable (_ ∧ _ ∧ _))
def RC.cnt (r : RC) : Prop := fitP r.x r.w ∧ fitP r.y r.h
instance (r : RC) : Decidable r.cnt := inferInstanceAs (Decidable (_ ∧ _))
def RC.has (r : RC) (x y : Int) : Prop := r.x ≤ x ∧ x < r.x + r.w ∧ r.y ≤ y ∧ y < r.y + r.h
instance (r : RC) (x y : Int) : Decidable (r.has x y) := inferInstanceAs (Decidable (_ ∧ _ ∧ _ ∧ _))
set_option maxRecDepth 100000 in
theorem fits_c (a n : Int) (h : Heap) (ha : I64 a) (hn : I64 n) : ACalls Try.prog 69 [.val (.int .i64 a), .val (.int .i64 n)] h (fun r h' => r = .val (.bool (decide (fitP a n))) ∧ h' = h) := by
  refine ACalls.intro Try.func69 rfl Try.ntmps69 Try.results69 (Nat.le_of_ble_eq_true rfl) ?_
  obtain ⟨a1, a2⟩ := ha
  obtain ⟨n1, n2⟩ := hn
  by_cases h1 : -1048576 ≤ a
  · by_cases h2 : 0 < n
    · (repeat' (first | (refine iS ?_; refine iMu ?_; refine S.mapU ?_) | refine svz ⟨fun b hq => ?_⟩ | refine sv1 ?_ | refine svs ⟨?_⟩ | refine svu ⟨fun u => ?_⟩ | (refine svg (fun hg => ?_) (fun hg => ?_) <;> try (exfalso; first | omega | contradiction)) | (refine svc (fun hc => ?_) (fun hc => ?_) <;> try (exfalso; first | omega | contradiction)) | refine sv2 ?_ | refine svh (fun hb => ?_) (fun hb => ?_) | refine svb (fun b => ?_) | refine sva ?_ | refine sv3 ?_))
      refine fin_r (h' := h) ⟨?_, rfl⟩
      refine congrArg (fun b => AV.val (.bool b)) (decide_eq_decide.2 ?_)
      unfold fitP; omega
    · (repeat' (first | (refine iS ?_; refine iMu ?_; refine S.mapU ?_) | refine svz ⟨fun b hq => ?_⟩ | refine sv1 ?_ | refine svs ⟨?_⟩ | refine svu ⟨fun u => ?_⟩ | (refine svg (fun hg => ?_) (fun hg => ?_) <;> try (exfalso; first | omega | contradiction)) | (refine svc (fun hc => ?_) (fun hc => ?_) <;> try (exfalso; first | omega | contradiction)) | refine sv2 ?_ | refine svh (fun hb => ?_) (fun hb => ?_) | refine svb (fun b => ?_) | refine sva ?_ | refine sv3 ?_))
      refine fin_r (h' := h) ⟨?_, rfl⟩
      rw [decide_eq_false (show ¬ fitP a n by unfold fitP; omega)]
      simp [tupA]; try omega
  · (repeat' (first | (refine iS ?_; refine iMu ?_; refine S.mapU ?_) | refine svz ⟨fun b hq => ?_⟩ | refine sv1 ?_ | refine svs ⟨?_⟩ | refine svu ⟨fun u => ?_⟩ | (refine svg (fun hg => ?_) (fun hg => ?_) <;> try (exfalso; first | omega | contradiction)) | (refine svc (fun hc => ?_) (fun hc => ?_) <;> try (exfalso; first | omega | contradiction)) | refine sv2 ?_ | refine svh (fun hb => ?_) (fun hb => ?_) | refine svb (fun b => ?_) | refine sva ?_ | refine sv3 ?_))
    refine fin_r (h' := h) ⟨?_, rfl⟩
    rw [decide_eq_false (show ¬ fitP a n by unfold fitP; omega)]
    simp [tupA]; try omega
set_option maxRecDepth 100000 in
theorem counts_c (r : RC) (h : Heap) (ok : r.ok) : ACalls Try.prog 54 [r.enc] h (fun v h' => v = .val (.bool (decide r.cnt)) ∧ h' = h) := by
  refine ACalls.intro Try.func54 rfl Try.ntmps54 Try.results54 (Nat.le_of_ble_eq_true rfl) ?_
  (repeat' (first | (refine iS ?_; refine iMu ?_; refine S.mapU ?_) | refine svz ⟨fun b hq => ?_⟩ | refine sv1 ?_ | refine svs ⟨?_⟩ | refine svu ⟨fun u => ?_⟩ | (refine svg (fun hg => ?_) (fun hg => ?_) <;> try (exfalso; first | omega | contradiction)) | (refine svc (fun hc => ?_) (fun hc => ?_) <;> try (exfalso; first | omega | contradiction)) | refine sv2 ?_ | refine svh (fun hb => ?_) (fun hb => ?_) | refine svb (fun b => ?_) | refine sva ?_ | refine sv3 ?_))
  refine S.call ?_; refine (fits_c r.x r.w _ ok.x ok.w).mono ?_; rintro r h' ⟨rfl, hh⟩; subst hh
  by_cases h1 : fitP r.x r.w
  · rw [decide_eq_true h1]
    (repeat' (first | (refine iS ?_; refine iMu ?_; refine S.mapU ?_) | refine svz ⟨fun b hq => ?_⟩ | refine sv1 ?_ | refine svs ⟨?_⟩ | refine svu ⟨fun u => ?_⟩ | (refine svg (fun hg => ?_) (fun hg => ?_) <;> try (exfalso; first | omega | contradiction)) | (refine svc (fun hc => ?_) (fun hc => ?_) <;> try (exfalso; first | omega | contradiction)) | refine sv2 ?_ | refine svh (fun hb => ?_) (fun hb => ?_) | refine svb (fun b => ?_) | refine sva ?_ | refine sv3 ?_))
    refine S.call ?_; refine (fits_c r.y r.h _ ok.y ok.h).mono ?_; rintro r h' ⟨rfl, hh⟩; subst hh
    (repeat' (first | (refine iS ?_; refine iMu ?_; refine S.mapU ?_) | refine svz ⟨fun b hq => ?_⟩ | refine sv1 ?_ | refine svs ⟨?_⟩ | refine svu ⟨fun u => ?_⟩ | (refine svg (fun hg => ?_) (fun hg => ?_) <;> try (exfalso; first | omega | contradiction)) | (refine svc (fun hc => ?_) (fun hc => ?_) <;> try (exfalso; first | omega | contradiction)) | refine sv2 ?_ | refine svh (fun hb => ?_) (fun hb => ?_) | refine svb (fun b => ?_) | refine sva ?_ | refine sv3 ?_))
    refine fin_r (h' := h) ⟨?_, rfl⟩
    refine congrArg (fun b => AV.val (.bool b)) (decide_eq_decide.2 ?_)
    unfold RC.cnt; simp [h1]
  · rw [decide_eq_false h1]
    (repeat' (first | (refine iS ?_; refine iMu ?_; refine S.mapU ?_) | refine svz ⟨fun b hq => ?_⟩ | refine sv1 ?_ | refine svs ⟨?_⟩ | refine svu ⟨fun u => ?_⟩ | (refine svg (fun hg => ?_) (fun hg => ?_) <;> try (exfalso; first | omega | contradiction)) | (refine svc (fun hc => ?_) (fun hc => ?_) <;> try (exfalso; first | omega | contradiction)) | refine sv2 ?_ | refine svh (fun hb => ?_) (fun hb => ?_) | refine svb (fun b => ?_) | refine sva ?_ | refine sv3 ?_))
    refine fin_r (h' := h) ⟨?_, rfl⟩
    rw [decide_eq_false (show ¬ r.cnt from fun q => h1 q.1)]
    rfl
end Go.Proofs.Ytmfbfbhkjclhkaa

/- Pens, in plain words: what is wrong with them, how they are changed. No condition. -/
namespace Go.Proofs.Ytmfbfbhkjclhkaa
open Go Go.VM
set_option linter.unusedVariables false
set_option linter.unusedSimpArgs false
structure PN where
  (fn pl fo ba ft x y : Int)
  cl : Bool
  clip : List RC
def placeP (n : Int) : Prop := -32768 ≤ n ∧ n ≤ 32767
instance (n : Int) : Decidable (placeP n) := inferInstanceAs (Decidable (_ ∧ _))
def sideP (n : Int) : Prop := 0 ≤ n ∧ n ≤ 65535
instance (n : Int) : Decidable (sideP n) := inferInstanceAs (Decidable (_ ∧ _))
def RC.rt (r : RC) : Prop := (placeP r.x ∧ placeP r.y) ∧ sideP r.w ∧ sideP r.h
instance (r : RC) : Decidable r.rt := inferInstanceAs (Decidable (_ ∧ _))
def allRt (l : List RC) : Bool := l.all fun r => decide r.rt
def chkF (p : PN) : Int :=
  if ¬ (0 ≤ p.fn ∧ p.fn ≤ 15) then 10 else if ¬ (placeP p.x ∧ placeP p.y) then 1 else if p.cl = false ∧ 0 < p.clip.length then 9 else if 256 < p.clip.length then 5 else if allRt p.clip = true then 0 else 1
theorem allRt_no {l : List RC} {i : Nat} {r : RC} (h : l[i]? = some r) (hn : ¬ r.rt) : allRt l = false := by
  cases e : allRt l with
  | false => rfl
  | true => exact absurd (by simpa using List.all_eq_true.1 e r (List.mem_of_getElem? h)) hn
theorem allRt_succ {l : List RC} {i : Nat} {r : RC} (h : l[i]? = some r) (hn : r.rt) (ha : allRt (l.take i) = true) : allRt (l.take (i + 1)) = true := by
  unfold allRt at *
  rw [List.take_add_one, h, List.all_append, ha]
  simp [hn]
theorem allRt_iff {l : List RC} : allRt l = true ↔ ∀ r ∈ l, r.rt := by
  unfold allRt; rw [List.all_eq_true]; simp
/-- Change's numbers: what each may be, what is told if not, where it goes. -/
def okC (i : Nat) (v : Int) : Bool := match i with
  | 0 => decide (0 ≤ v ∧ v ≤ 15)
  | 1 | 2 | 3 => decide (0 ≤ v ∧ v ≤ 255)
  | _ => decide (0 ≤ v ∧ v ≤ 4294967295)
def badC (i : Nat) : Int := if i = 0 then 10 else 1
def setC (i : Nat) (p : PN) (v : Int) : PN := match i with
  | 0 => { p with fn := v }
  | 1 => { p with pl := v }
  | 2 => { p with fo := v }
  | 3 => { p with ba := v }
  | _ => { p with ft := v }
def bitM (m i : Nat) : Bool := m / 2 ^ i % 2 == 1
/-- The pen with the first i numbers that the mask has. -/
def putC (m : Nat) (n : List Int) (p : PN) : Nat → PN
  | 0 => p
  | i + 1 => if bitM m i then setC i (putC m n p i) (n.getD i 0) else putC m n p i
def okN (m : Nat) (n : List Int) (i : Nat) : Bool := !bitM m i || okC i (n.getD i 0)
/-- The first number that may not be, as an error's number. -/
def badN (m : Nat) (n : List Int) : Int := if okN m n 0 = false then 10 else if okN m n 1 && okN m n 2 && okN m n 3 && okN m n 4 then 0 else 1
def chgF (p : PN) (mask : Int) (n : List Int) : PN × Int :=
  if chkF p ≠ 0 then (p, chkF p) else if mask < 0 ∨ 31 < mask then (p, 10) else if n.length ≠ 5 then (p, 14) else if badN mask.toNat n = 0 then (putC mask.toNat n p 5, 0) else (p, badN mask.toNat n)
end Go.Proofs.Ytmfbfbhkjclhkaa


/- The reference's Counts, In, Has, Area. No condition. -/
namespace Go.Proofs.Ytmfbfbhkjclhkaa
open Go Go.VM
attribute [local irreducible] PurV Pur Step RL W D ACalls Then InBlock Fini
set_option linter.unusedVariables false
set_option linter.unusedSimpArgs false
set_option maxHeartbeats 20000000
def hasF (l : List RC) (x y : Int) : Bool := l.any fun r => decide r.cnt && decide (r.has x y)
end Go.Proofs.Ytmfbfbhkjclhkaa


/- The reference's Same. No condition. -/
namespace Go.Proofs.Ytmfbfbhkjclhkaa
open Go Go.VM
attribute [local irreducible] PurV Pur Step RL W D ACalls Then InBlock Fini
set_option linter.unusedVariables false
set_option linter.unusedSimpArgs false
set_option maxHeartbeats 20000000
instance : TEq Try.prog 43 4 := ⟨by kernel_rfl, by kernel_rfl, by kernel_rfl, by kernel_rfl, by kernel_rfl⟩
theorem RC.eq4 (r s : RC) : (∀ q ∈ [(IntKind.i64, r.x, s.x), (IntKind.i64, r.y, s.y), (IntKind.i64, r.w, s.w), (IntKind.i64, r.h, s.h)], q.2.1 = q.2.2) ↔ r = s := by
  obtain ⟨a, b, c, d⟩ := r
  obtain ⟨a', b', c', d'⟩ := s
  simp
end Go.Proofs.Ytmfbfbhkjclhkaa

/- Areas; whether rows are alike. No condition. -/
namespace Go.Proofs.Ytmfbfbhkjclhkaa
open Go Go.VM
attribute [local irreducible] PurV Pur Step RL W D ACalls Then InBlock Fini
set_option linter.unusedVariables false
set_option linter.unusedSimpArgs false
set_option maxHeartbeats 20000000
def areaF (l : List RC) : Int := (l.map fun r => r.w * r.h).sum
def RC.sm (r : RC) : Prop := 0 ≤ r.w ∧ r.w ≤ 2097152 ∧ 0 ≤ r.h ∧ r.h ≤ 2097152
theorem RC.cnt.sm {r : RC} (h : r.cnt) : r.sm := by
  obtain ⟨⟨h1, h2, h3⟩, ⟨h4, h5, h6⟩⟩ := h
  unfold RC.sm; omega
theorem RC.sm.mul {r : RC} (h : r.sm) : 0 ≤ r.w * r.h ∧ r.w * r.h ≤ 4398046511104 := by
  obtain ⟨h1, h2, h3, h4⟩ := h
  refine ⟨Int.mul_nonneg h1 h3, ?_⟩
  have := Int.mul_le_mul h2 h4 h3 (by omega)
  omega
theorem areaF_snoc (l : List RC) (r : RC) : areaF (l ++ [r]) = areaF l + r.w * r.h := by simp [areaF, List.sum_append]
theorem areaF_le : ∀ (l : List RC), (∀ r ∈ l, r.sm) → 0 ≤ areaF l ∧ areaF l ≤ l.length * 4398046511104
  | [], _ => by simp [areaF]
  | r :: l, h => by
    have h1 := (h r (.head _)).mul
    have h2 := areaF_le l fun s hs => h s (.tail _ hs)
    have e : areaF (r :: l) = r.w * r.h + areaF l := by simp [areaF]
    rw [e, List.length_cons]
    push_cast
    omega
end Go.Proofs.Ytmfbfbhkjclhkaa
