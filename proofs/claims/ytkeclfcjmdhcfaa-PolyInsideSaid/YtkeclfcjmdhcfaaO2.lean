/- poly: which edges pass a row, and where: the program's and the reference's. No condition. -/
import Derived.Test.YtkeclfcjmdhcfaaO1
namespace Go.Proofs.Ytkeclfcjmdhcfaa
open Go Go.VM
attribute [local irreducible] PurV Pur Step RL W D ACalls Then InBlock Fini
set_option linter.unusedVariables false
set_option linter.unusedSimpArgs false
set_option maxHeartbeats 20000000
theorem mul_abs {a b A B : Int} (ha : -A ≤ a ∧ a ≤ A) (hb : -B ≤ b ∧ b ≤ B) : -(A * B) ≤ a * b ∧ a * b ≤ A * B := by
  have h1 := Int.mul_nonneg (show 0 ≤ A - a by omega) (show 0 ≤ B - b by omega)
  have h2 := Int.mul_nonneg (show 0 ≤ A + a by omega) (show 0 ≤ B + b by omega)
  have h3 := Int.mul_nonneg (show 0 ≤ A - a by omega) (show 0 ≤ B + b by omega)
  have h4 := Int.mul_nonneg (show 0 ≤ A + a by omega) (show 0 ≤ B - b by omega)
  grind
/-- A quotient, upwards. -/
def cdivP (u d : Int) : Int := if 0 < u.tmod d then u.tdiv d + 1 else u.tdiv d
theorem cdiv_le {u d : Int} (hd : 0 < d) (t : Int) : cdivP u d ≤ t ↔ u ≤ t * d := by
  have e := Int.tmod_add_mul_tdiv u d
  have h1 := Int.tmod_lt_of_pos u hd
  have h2 := Int.lt_tmod_of_pos u hd
  unfold cdivP
  generalize u.tmod d = r at *
  generalize u.tdiv d = q at *
  have key : ∀ s : Int, (q ≤ s ↔ q * d ≤ s * d) := fun s => ⟨fun h => Int.mul_le_mul_of_nonneg_right h (by omega), fun h => Int.le_of_mul_le_mul_right h hd⟩
  have e2 : u = r + q * d := by rw [← e, Int.mul_comm d q]
  split
  · constructor
    · intro h
      have := Int.mul_le_mul_of_nonneg_right h (show 0 ≤ d by omega)
      rw [Int.add_mul, Int.one_mul] at this
      omega
    · intro h
      have : q < t := by
        rcases Int.lt_or_le q t with g | g
        · exact g
        · have := Int.mul_le_mul_of_nonneg_right g (show 0 ≤ d by omega)
          omega
      omega
  · rw [key]
    constructor
    · intro h; omega
    · intro h
      rcases Int.lt_or_le t q with g | g
      · have := Int.mul_le_mul_of_nonneg_right (show t + 1 ≤ q by omega) (show 0 ≤ d by omega)
        rw [Int.add_mul, Int.one_mul] at this
        omega
      · exact Int.mul_le_mul_of_nonneg_right g (by omega)
theorem tdiv_bd {u d A : Int} (h : -A ≤ u ∧ u ≤ A) (hA : 0 ≤ A) : -A ≤ u.tdiv d ∧ u.tdiv d ≤ A := by
  have h1 : (u.tdiv d).natAbs ≤ u.natAbs := by rw [Int.natAbs_tdiv]; exact Nat.div_le_self _ _
  omega
def passU (a b : PT) (y w : Int) : Option (Int × Int) :=
  if y < a.y ∨ b.y ≤ y then none else some (a.x + cdivP ((b.x - a.x) * (2 * (y - a.y) + 1) - (b.y - a.y)) (2 * (b.y - a.y)), w)
def passE (a b : PT) (y : Int) : Option (Int × Int) := if b.y < a.y then passU b a y (-1) else passU a b y 1
def passV (o : Option (Int × Int)) : AV := match o with
  | some p => .tup [.agg [.val (.int .i64 p.1), .val (.int .i64 p.2)], .val (.bool true)]
  | none => .tup [.agg [.val (.int .i64 0), .val (.int .i64 0)], .val (.bool false)]
/-- What an edge adds to how often a place is turned round. -/
def tr (o : Option (Int × Int)) (x : Int) : Int := match o with
  | some p => if p.1 ≤ x then p.2 else 0
  | none => 0
set_option maxRecDepth 100000 in
theorem passes_c (p q : PT) (y : Int) (h : Heap) (ha : p.near) (hb : q.near) (hy : nearI y) : ACalls Try.prog 35 [p.enc, q.enc, .val (.int .i64 y)] h (fun v h' => v = passV (passE p q y) ∧ h' = h) := by
  show ACalls Try.prog 35 [.agg [.val (.int .i64 p.x), .val (.int .i64 p.y)], .agg [.val (.int .i64 q.x), .val (.int .i64 q.y)], .val (.int .i64 y)] h _
  obtain ⟨⟨a1, a2⟩, a3, a4⟩ := ha
  obtain ⟨⟨b1, b2⟩, b3, b4⟩ := hb
  obtain ⟨y1, y2⟩ := hy
  unfold passE
  by_cases g : q.y < p.y
  · rw [if_pos g]
    unfold passU
    by_cases n1 : y < q.y
    · rw [if_pos (.inl n1)]
      refine ACalls.intro Try.func35 rfl Try.ntmps35 Try.results35 (Nat.le_of_ble_eq_true rfl) ?_
      (repeat' (first | (refine iS ?_; refine iMu ?_; refine S.mapU ?_) | refine svz ⟨fun b hq => ?_⟩ | refine sv1 ?_ | refine svs ⟨?_⟩ | refine svu ⟨fun u => ?_⟩ | (refine svg (fun hg => ?_) (fun hg => ?_) <;> try (exfalso; first | omega | contradiction)) | (refine svc (fun hc => ?_) (fun hc => ?_) <;> try (exfalso; first | omega | contradiction)) | refine sv2 ?_ | refine svh (fun hb => ?_) (fun hb => ?_) | refine svb (fun b => ?_) | refine sva ?_ | refine sv3 ?_))
      exact fin_r (h' := h) ⟨rfl, rfl⟩
    by_cases n2 : p.y ≤ y
    · rw [if_pos (.inr n2)]
      refine ACalls.intro Try.func35 rfl Try.ntmps35 Try.results35 (Nat.le_of_ble_eq_true rfl) ?_
      (repeat' (first | (refine iS ?_; refine iMu ?_; refine S.mapU ?_) | refine svz ⟨fun b hq => ?_⟩ | refine sv1 ?_ | refine svs ⟨?_⟩ | refine svu ⟨fun u => ?_⟩ | (refine svg (fun hg => ?_) (fun hg => ?_) <;> try (exfalso; first | omega | contradiction)) | (refine svc (fun hc => ?_) (fun hc => ?_) <;> try (exfalso; first | omega | contradiction)) | refine sv2 ?_ | refine svh (fun hb => ?_) (fun hb => ?_) | refine svb (fun b => ?_) | refine sva ?_ | refine sv3 ?_))
      exact fin_r (h' := h) ⟨rfl, rfl⟩
    rw [if_neg (by omega)]
    have m1 := mul_abs (a := p.x - q.x) (b := 2 * (y - q.y) + 1) (A := 2097152) (B := 8388608) (by omega) (by omega); simp only [Int.reduceMul, Int.reduceNeg] at m1; have m2 := tdiv_bd (u := (p.x - q.x) * (2 * (y - q.y) + 1) - (p.y - q.y)) (d := 2 * (p.y - q.y)) (A := 17592200000000) (by omega) (by omega); have w1 : IntKind.i64.wrap (((p.x - q.x) * (2 * (y - q.y) + 1) - (p.y - q.y)).tdiv (2 * (p.y - q.y))) = ((p.x - q.x) * (2 * (y - q.y) + 1) - (p.y - q.y)).tdiv (2 * (p.y - q.y)) := wrap_i64 (by omega) (by omega); have w2 : IntKind.i64.wrap (q.x + ((p.x - q.x) * (2 * (y - q.y) + 1) - (p.y - q.y)).tdiv (2 * (p.y - q.y))) = q.x + ((p.x - q.x) * (2 * (y - q.y) + 1) - (p.y - q.y)).tdiv (2 * (p.y - q.y)) := wrap_i64 (by omega) (by omega); have w3 : IntKind.i64.wrap (((p.x - q.x) * (2 * (y - q.y) + 1) - (p.y - q.y)).tdiv (2 * (p.y - q.y)) + 1) = ((p.x - q.x) * (2 * (y - q.y) + 1) - (p.y - q.y)).tdiv (2 * (p.y - q.y)) + 1 := wrap_i64 (by omega) (by omega); have w4 : IntKind.i64.wrap (q.x + (((p.x - q.x) * (2 * (y - q.y) + 1) - (p.y - q.y)).tdiv (2 * (p.y - q.y)) + 1)) = q.x + (((p.x - q.x) * (2 * (y - q.y) + 1) - (p.y - q.y)).tdiv (2 * (p.y - q.y)) + 1) := wrap_i64 (by omega) (by omega)
    refine ACalls.intro Try.func35 rfl Try.ntmps35 Try.results35 (Nat.le_of_ble_eq_true rfl) ?_
    (repeat' (first | (refine iS ?_; refine iMu ?_; refine S.mapU ?_) | refine svz ⟨fun b hq => ?_⟩ | refine sv1 ?_ | refine svs ⟨?_⟩ | refine svu ⟨fun u => ?_⟩ | (refine svg (fun hg => ?_) (fun hg => ?_) <;> try (exfalso; first | omega | contradiction)) | (refine svc (fun hc => ?_) (fun hc => ?_) <;> try (exfalso; first | omega | contradiction)) | refine sv2 ?_ | refine svh (fun hb => ?_) (fun hb => ?_) | refine svb (fun b => ?_) | refine sva ?_ | refine sv3 ?_))
    · skip
      rw [show cdivP ((p.x - q.x) * (2 * (y - q.y) + 1) - (p.y - q.y)) (2 * (p.y - q.y)) = ((p.x - q.x) * (2 * (y - q.y) + 1) - (p.y - q.y)).tdiv (2 * (p.y - q.y)) + 1 from if_pos hc]
      refine fin_r (h' := h) ⟨?_, rfl⟩
      simp only [w1, w2, w3, w4]
      rfl
    · skip
      rw [show cdivP ((p.x - q.x) * (2 * (y - q.y) + 1) - (p.y - q.y)) (2 * (p.y - q.y)) = ((p.x - q.x) * (2 * (y - q.y) + 1) - (p.y - q.y)).tdiv (2 * (p.y - q.y)) from if_neg hc]
      refine fin_r (h' := h) ⟨?_, rfl⟩
      simp only [w1, w2, w3, w4]
      rfl
  · rw [if_neg g]
    unfold passU
    by_cases n1 : y < p.y
    · rw [if_pos (.inl n1)]
      refine ACalls.intro Try.func35 rfl Try.ntmps35 Try.results35 (Nat.le_of_ble_eq_true rfl) ?_
      (repeat' (first | (refine iS ?_; refine iMu ?_; refine S.mapU ?_) | refine svz ⟨fun b hq => ?_⟩ | refine sv1 ?_ | refine svs ⟨?_⟩ | refine svu ⟨fun u => ?_⟩ | (refine svg (fun hg => ?_) (fun hg => ?_) <;> try (exfalso; first | omega | contradiction)) | (refine svc (fun hc => ?_) (fun hc => ?_) <;> try (exfalso; first | omega | contradiction)) | refine sv2 ?_ | refine svh (fun hb => ?_) (fun hb => ?_) | refine svb (fun b => ?_) | refine sva ?_ | refine sv3 ?_))
      exact fin_r (h' := h) ⟨rfl, rfl⟩
    by_cases n2 : q.y ≤ y
    · rw [if_pos (.inr n2)]
      refine ACalls.intro Try.func35 rfl Try.ntmps35 Try.results35 (Nat.le_of_ble_eq_true rfl) ?_
      (repeat' (first | (refine iS ?_; refine iMu ?_; refine S.mapU ?_) | refine svz ⟨fun b hq => ?_⟩ | refine sv1 ?_ | refine svs ⟨?_⟩ | refine svu ⟨fun u => ?_⟩ | (refine svg (fun hg => ?_) (fun hg => ?_) <;> try (exfalso; first | omega | contradiction)) | (refine svc (fun hc => ?_) (fun hc => ?_) <;> try (exfalso; first | omega | contradiction)) | refine sv2 ?_ | refine svh (fun hb => ?_) (fun hb => ?_) | refine svb (fun b => ?_) | refine sva ?_ | refine sv3 ?_))
      exact fin_r (h' := h) ⟨rfl, rfl⟩
    rw [if_neg (by omega)]
    have m1 := mul_abs (a := q.x - p.x) (b := 2 * (y - p.y) + 1) (A := 2097152) (B := 8388608) (by omega) (by omega); simp only [Int.reduceMul, Int.reduceNeg] at m1; have m2 := tdiv_bd (u := (q.x - p.x) * (2 * (y - p.y) + 1) - (q.y - p.y)) (d := 2 * (q.y - p.y)) (A := 17592200000000) (by omega) (by omega); have w1 : IntKind.i64.wrap (((q.x - p.x) * (2 * (y - p.y) + 1) - (q.y - p.y)).tdiv (2 * (q.y - p.y))) = ((q.x - p.x) * (2 * (y - p.y) + 1) - (q.y - p.y)).tdiv (2 * (q.y - p.y)) := wrap_i64 (by omega) (by omega); have w2 : IntKind.i64.wrap (p.x + ((q.x - p.x) * (2 * (y - p.y) + 1) - (q.y - p.y)).tdiv (2 * (q.y - p.y))) = p.x + ((q.x - p.x) * (2 * (y - p.y) + 1) - (q.y - p.y)).tdiv (2 * (q.y - p.y)) := wrap_i64 (by omega) (by omega); have w3 : IntKind.i64.wrap (((q.x - p.x) * (2 * (y - p.y) + 1) - (q.y - p.y)).tdiv (2 * (q.y - p.y)) + 1) = ((q.x - p.x) * (2 * (y - p.y) + 1) - (q.y - p.y)).tdiv (2 * (q.y - p.y)) + 1 := wrap_i64 (by omega) (by omega); have w4 : IntKind.i64.wrap (p.x + (((q.x - p.x) * (2 * (y - p.y) + 1) - (q.y - p.y)).tdiv (2 * (q.y - p.y)) + 1)) = p.x + (((q.x - p.x) * (2 * (y - p.y) + 1) - (q.y - p.y)).tdiv (2 * (q.y - p.y)) + 1) := wrap_i64 (by omega) (by omega)
    refine ACalls.intro Try.func35 rfl Try.ntmps35 Try.results35 (Nat.le_of_ble_eq_true rfl) ?_
    (repeat' (first | (refine iS ?_; refine iMu ?_; refine S.mapU ?_) | refine svz ⟨fun b hq => ?_⟩ | refine sv1 ?_ | refine svs ⟨?_⟩ | refine svu ⟨fun u => ?_⟩ | (refine svg (fun hg => ?_) (fun hg => ?_) <;> try (exfalso; first | omega | contradiction)) | (refine svc (fun hc => ?_) (fun hc => ?_) <;> try (exfalso; first | omega | contradiction)) | refine sv2 ?_ | refine svh (fun hb => ?_) (fun hb => ?_) | refine svb (fun b => ?_) | refine sva ?_ | refine sv3 ?_))
    · skip
      rw [show cdivP ((q.x - p.x) * (2 * (y - p.y) + 1) - (q.y - p.y)) (2 * (q.y - p.y)) = ((q.x - p.x) * (2 * (y - p.y) + 1) - (q.y - p.y)).tdiv (2 * (q.y - p.y)) + 1 from if_pos hc]
      refine fin_r (h' := h) ⟨?_, rfl⟩
      simp only [w1, w2, w3, w4]
      rfl
    · skip
      rw [show cdivP ((q.x - p.x) * (2 * (y - p.y) + 1) - (q.y - p.y)) (2 * (q.y - p.y)) = ((q.x - p.x) * (2 * (y - p.y) + 1) - (q.y - p.y)).tdiv (2 * (q.y - p.y)) from if_neg hc]
      refine fin_r (h' := h) ⟨?_, rfl⟩
      simp only [w1, w2, w3, w4]
      rfl
def trU (a b : PT) (x y w : Int) : Int := if y < a.y ∨ b.y ≤ y then 0 else if (2 * x + 1) * (b.y - a.y) < 2 * a.x * (b.y - a.y) + (2 * y + 1 - 2 * a.y) * (b.x - a.x) then 0 else w
theorem trU_eq (a b : PT) (x y w : Int) : tr (passU a b y w) x = trU a b x y w := by
  unfold passU trU
  by_cases n : y < a.y ∨ b.y ≤ y
  · rw [if_pos n, if_pos n]; rfl
  · rw [if_neg n, if_neg n]
    have hd : 0 < 2 * (b.y - a.y) := by omega
    have key := cdiv_le (u := (b.x - a.x) * (2 * (y - a.y) + 1) - (b.y - a.y)) hd (x - a.x)
    have e : ((b.x - a.x) * (2 * (y - a.y) + 1) - (b.y - a.y) ≤ (x - a.x) * (2 * (b.y - a.y))) ↔ ¬ (2 * x + 1) * (b.y - a.y) < 2 * a.x * (b.y - a.y) + (2 * y + 1 - 2 * a.y) * (b.x - a.x) := by
      have e1 : (x - a.x) * (2 * (b.y - a.y)) - ((b.x - a.x) * (2 * (y - a.y) + 1) - (b.y - a.y)) = (2 * x + 1) * (b.y - a.y) - (2 * a.x * (b.y - a.y) + (2 * y + 1 - 2 * a.y) * (b.x - a.x)) := by grind
      omega
    rw [e] at key
    show (if a.x + cdivP ((b.x - a.x) * (2 * (y - a.y) + 1) - (b.y - a.y)) (2 * (b.y - a.y)) ≤ x then w else 0) = _
    by_cases c : (2 * x + 1) * (b.y - a.y) < 2 * a.x * (b.y - a.y) + (2 * y + 1 - 2 * a.y) * (b.x - a.x)
    · rw [if_pos c, if_neg]
      intro q
      exact key.1 (by omega) c
    · rw [if_neg c, if_pos]
      have := key.2 c
      omega
theorem tr_eq (a b : PT) (x y : Int) : tr (passE a b y) x = if b.y < a.y then trU b a x y (-1) else trU a b x y 1 := by
  unfold passE
  split <;> exact trU_eq _ _ _ _ _
set_option maxRecDepth 100000 in
theorem rpass_c (p q : PT) (x y : Int) (h : Heap) (ha : p.near) (hb : q.near) (hx : nearI x) (hy : nearI y) : ACalls Try.prog 31 [p.enc, q.enc, .val (.int .i64 x), .val (.int .i64 y)] h (fun v h' => v = .val (.int .i64 (tr (passE p q y) x)) ∧ h' = h) := by
  show ACalls Try.prog 31 [.agg [.val (.int .i64 p.x), .val (.int .i64 p.y)], .agg [.val (.int .i64 q.x), .val (.int .i64 q.y)], _, _] h _
  obtain ⟨⟨a1, a2⟩, a3, a4⟩ := ha
  obtain ⟨⟨b1, b2⟩, b3, b4⟩ := hb
  obtain ⟨y1, y2⟩ := hy
  obtain ⟨x1, x2⟩ := hx
  rw [tr_eq]
  by_cases g : q.y < p.y
  · rw [if_pos g]
    unfold trU
    have m1 := mul_abs (a := 2 * x + 1) (b := p.y - q.y) (A := 8388608) (B := 8388608) (by omega) (by omega)
    have m2 := mul_abs (a := 2 * q.x) (b := p.y - q.y) (A := 8388608) (B := 8388608) (by omega) (by omega)
    have m3 := mul_abs (a := 2 * y + 1 - 2 * q.y) (b := p.x - q.x) (A := 8388608) (B := 8388608) (by omega) (by omega)
    simp only [Int.reduceMul, Int.reduceNeg] at m1 m2 m3
    by_cases n1 : y < q.y
    · rw [if_pos (.inl n1)]
      refine ACalls.intro Try.func31 rfl Try.ntmps31 Try.results31 (Nat.le_of_ble_eq_true rfl) ?_
      (repeat' (first | (refine iS ?_; refine iMu ?_; refine S.mapU ?_) | refine svz ⟨fun b hq => ?_⟩ | refine sv1 ?_ | refine svs ⟨?_⟩ | refine svu ⟨fun u => ?_⟩ | (refine svg (fun hg => ?_) (fun hg => ?_) <;> try (exfalso; first | omega | contradiction)) | (refine svc (fun hc => ?_) (fun hc => ?_) <;> try (exfalso; first | omega | contradiction)) | refine sv2 ?_ | refine svh (fun hb => ?_) (fun hb => ?_) | refine svb (fun b => ?_) | refine sva ?_ | refine sv3 ?_))
      exact fin_r (h' := h) ⟨rfl, rfl⟩
    by_cases n2 : p.y ≤ y
    · rw [if_pos (.inr n2)]
      refine ACalls.intro Try.func31 rfl Try.ntmps31 Try.results31 (Nat.le_of_ble_eq_true rfl) ?_
      (repeat' (first | (refine iS ?_; refine iMu ?_; refine S.mapU ?_) | refine svz ⟨fun b hq => ?_⟩ | refine sv1 ?_ | refine svs ⟨?_⟩ | refine svu ⟨fun u => ?_⟩ | (refine svg (fun hg => ?_) (fun hg => ?_) <;> try (exfalso; first | omega | contradiction)) | (refine svc (fun hc => ?_) (fun hc => ?_) <;> try (exfalso; first | omega | contradiction)) | refine sv2 ?_ | refine svh (fun hb => ?_) (fun hb => ?_) | refine svb (fun b => ?_) | refine sva ?_ | refine sv3 ?_))
      exact fin_r (h' := h) ⟨rfl, rfl⟩
    rw [if_neg (by omega)]
    by_cases c : (2 * x + 1) * (p.y - q.y) < 2 * q.x * (p.y - q.y) + (2 * y + 1 - 2 * q.y) * (p.x - q.x)
    · rw [if_pos c]
      refine ACalls.intro Try.func31 rfl Try.ntmps31 Try.results31 (Nat.le_of_ble_eq_true rfl) ?_
      (repeat' (first | (refine iS ?_; refine iMu ?_; refine S.mapU ?_) | refine svz ⟨fun b hq => ?_⟩ | refine sv1 ?_ | refine svs ⟨?_⟩ | refine svu ⟨fun u => ?_⟩ | (refine svg (fun hg => ?_) (fun hg => ?_) <;> try (exfalso; first | omega | contradiction)) | (refine svc (fun hc => ?_) (fun hc => ?_) <;> try (exfalso; first | omega | contradiction)) | refine sv2 ?_ | refine svh (fun hb => ?_) (fun hb => ?_) | refine svb (fun b => ?_) | refine sva ?_ | refine sv3 ?_))
      exact fin_r (h' := h) ⟨rfl, rfl⟩
    · rw [if_neg c]
      refine ACalls.intro Try.func31 rfl Try.ntmps31 Try.results31 (Nat.le_of_ble_eq_true rfl) ?_
      (repeat' (first | (refine iS ?_; refine iMu ?_; refine S.mapU ?_) | refine svz ⟨fun b hq => ?_⟩ | refine sv1 ?_ | refine svs ⟨?_⟩ | refine svu ⟨fun u => ?_⟩ | (refine svg (fun hg => ?_) (fun hg => ?_) <;> try (exfalso; first | omega | contradiction)) | (refine svc (fun hc => ?_) (fun hc => ?_) <;> try (exfalso; first | omega | contradiction)) | refine sv2 ?_ | refine svh (fun hb => ?_) (fun hb => ?_) | refine svb (fun b => ?_) | refine sva ?_ | refine sv3 ?_))
      exact fin_r (h' := h) ⟨rfl, rfl⟩
  · rw [if_neg g]
    unfold trU
    have m1 := mul_abs (a := 2 * x + 1) (b := q.y - p.y) (A := 8388608) (B := 8388608) (by omega) (by omega)
    have m2 := mul_abs (a := 2 * p.x) (b := q.y - p.y) (A := 8388608) (B := 8388608) (by omega) (by omega)
    have m3 := mul_abs (a := 2 * y + 1 - 2 * p.y) (b := q.x - p.x) (A := 8388608) (B := 8388608) (by omega) (by omega)
    simp only [Int.reduceMul, Int.reduceNeg] at m1 m2 m3
    by_cases n1 : y < p.y
    · rw [if_pos (.inl n1)]
      refine ACalls.intro Try.func31 rfl Try.ntmps31 Try.results31 (Nat.le_of_ble_eq_true rfl) ?_
      (repeat' (first | (refine iS ?_; refine iMu ?_; refine S.mapU ?_) | refine svz ⟨fun b hq => ?_⟩ | refine sv1 ?_ | refine svs ⟨?_⟩ | refine svu ⟨fun u => ?_⟩ | (refine svg (fun hg => ?_) (fun hg => ?_) <;> try (exfalso; first | omega | contradiction)) | (refine svc (fun hc => ?_) (fun hc => ?_) <;> try (exfalso; first | omega | contradiction)) | refine sv2 ?_ | refine svh (fun hb => ?_) (fun hb => ?_) | refine svb (fun b => ?_) | refine sva ?_ | refine sv3 ?_))
      exact fin_r (h' := h) ⟨rfl, rfl⟩
    by_cases n2 : q.y ≤ y
    · rw [if_pos (.inr n2)]
      refine ACalls.intro Try.func31 rfl Try.ntmps31 Try.results31 (Nat.le_of_ble_eq_true rfl) ?_
      (repeat' (first | (refine iS ?_; refine iMu ?_; refine S.mapU ?_) | refine svz ⟨fun b hq => ?_⟩ | refine sv1 ?_ | refine svs ⟨?_⟩ | refine svu ⟨fun u => ?_⟩ | (refine svg (fun hg => ?_) (fun hg => ?_) <;> try (exfalso; first | omega | contradiction)) | (refine svc (fun hc => ?_) (fun hc => ?_) <;> try (exfalso; first | omega | contradiction)) | refine sv2 ?_ | refine svh (fun hb => ?_) (fun hb => ?_) | refine svb (fun b => ?_) | refine sva ?_ | refine sv3 ?_))
      exact fin_r (h' := h) ⟨rfl, rfl⟩
    rw [if_neg (by omega)]
    by_cases c : (2 * x + 1) * (q.y - p.y) < 2 * p.x * (q.y - p.y) + (2 * y + 1 - 2 * p.y) * (q.x - p.x)
    · rw [if_pos c]
      refine ACalls.intro Try.func31 rfl Try.ntmps31 Try.results31 (Nat.le_of_ble_eq_true rfl) ?_
      (repeat' (first | (refine iS ?_; refine iMu ?_; refine S.mapU ?_) | refine svz ⟨fun b hq => ?_⟩ | refine sv1 ?_ | refine svs ⟨?_⟩ | refine svu ⟨fun u => ?_⟩ | (refine svg (fun hg => ?_) (fun hg => ?_) <;> try (exfalso; first | omega | contradiction)) | (refine svc (fun hc => ?_) (fun hc => ?_) <;> try (exfalso; first | omega | contradiction)) | refine sv2 ?_ | refine svh (fun hb => ?_) (fun hb => ?_) | refine svb (fun b => ?_) | refine sva ?_ | refine sv3 ?_))
      exact fin_r (h' := h) ⟨rfl, rfl⟩
    · rw [if_neg c]
      refine ACalls.intro Try.func31 rfl Try.ntmps31 Try.results31 (Nat.le_of_ble_eq_true rfl) ?_
      (repeat' (first | (refine iS ?_; refine iMu ?_; refine S.mapU ?_) | refine svz ⟨fun b hq => ?_⟩ | refine sv1 ?_ | refine svs ⟨?_⟩ | refine svu ⟨fun u => ?_⟩ | (refine svg (fun hg => ?_) (fun hg => ?_) <;> try (exfalso; first | omega | contradiction)) | (refine svc (fun hc => ?_) (fun hc => ?_) <;> try (exfalso; first | omega | contradiction)) | refine sv2 ?_ | refine svh (fun hb => ?_) (fun hb => ?_) | refine svb (fun b => ?_) | refine sva ?_ | refine sv3 ?_))
      exact fin_r (h' := h) ⟨rfl, rfl⟩
end Go.Proofs.Ytkeclfcjmdhcfaa
