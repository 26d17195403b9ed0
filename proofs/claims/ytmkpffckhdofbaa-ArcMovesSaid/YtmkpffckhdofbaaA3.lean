/- arc: row, rows, put, Span, Inside. No condition. -/
import Derived.Test.YtmkpffckhdofbaaA2
import Derived.Test.YtmkpffckhdofbaaB12
namespace Go.VM
open Go
section
variable {P : Program} {ops : Array Oper} {rest : List Oper} {s : St} {K : St → Prop} {d : Option Nat} {ty : Nat} {pos : String} {af : Array Edge} {x : Operand} {args : Array Operand} {ats : Array Nat} {l : Nat} {vs : List AV}
/-- A call of yield under a guard that is on. -/
theorem RL.yieldg {j g : Nat} {b : Bool} (hc : Yields P l vs s.h (fun b h' => RL none P ops rest (({ s with h := h' } : St).put d (.val (.bool b))) K)) (hb : b = true) (hj : (ops[j]?).bind (·.dst) = some g := by rfl) (hg : get s.t g = some (.val (.bool b)) := by rfl) (hx : evalA s.t x = some (.val (.func (.yield l) #[] #[])) := by rfl) (hv : Evals s.t args.toList vs := by (repeat (first | exact Evals.nil | (apply Evals.cons; rfl)))) (hf : fits s d = true := by rfl) :
    RL none P ops (⟨d, .call { callee := .value x, args := args, argTypes := ats }, ty, pos, af, some (j, true)⟩ :: rest) s K := by
  subst hb
  intro i hi m0 w0 a w hs Q hQ
  obtain ⟨h1, h2⟩ := drop_cons hi
  have h1' := h1
  rw [Array.getElem?_toList] at h1'
  rw [List.length_cons, List.range'_succ, wpOpsIn_cons]
  have hy : yielded ops a.tmps j = some true := by
    obtain ⟨m, hm⟩ := hs
    obtain ⟨u, g1, g2⟩ := hm.tmps g _ hg
    simp only [Rel] at g2
    obtain ⟨rfl, _⟩ := g2
    simp [yielded, hj, g1]
  unfold wpOpIn
  simp only [h1']
  rw [if_pos (by simp [Region.wanted, hy])]
  exact wpIn_yield (K := fun s' => RL none P ops rest s' K) hx hv hf hc hs (fun a' w' s' hk hs' => hk _ h2 _ _ _ _ hs' Q hQ) Q
end
end Go.VM
namespace Go.Proofs.Ytmkpffckhdofbaa
open Go Go.VM
attribute [local irreducible] PurV Pur Step RL W D ACalls Then InBlock Fini
set_option linter.unusedVariables false
set_option linter.unusedSimpArgs false
set_option maxHeartbeats 20000000
def stE (s : Int × Int) : AV := .agg [.val (.int .i64 s.1), .val (.int .i64 s.2)]
instance : TFun Try.prog 46 := ⟨by kernel_rfl⟩
instance : TFun Try.prog 47 := ⟨by kernel_rfl⟩
set_option maxRecDepth 100000 in
theorem row1_c (r : RC) (i : Nat) (y : Int) (b2 b3 : Nat) (h : Heap) (ok : aok r) (hin : inR r (r.x + (i : Int)) y) : ACalls Try.prog 46 [.val (.int .i64 (i : Int)), .val (.pointer (some ⟨b2, 0, none⟩)), .val (.pointer (some ⟨b3, 0, none⟩))] (.box b3 [.val (.int .i64 y)] 3 :: .box b2 [.val (.int .i64 r.x), .val (.int .i64 r.y), .val (.int .i64 r.w), .val (.int .i64 r.h)] 26 :: h)
    (fun v h' => v = .val (.bool (insE r (r.x + (i : Int)) y)) ∧ h' = .box b3 [.val (.int .i64 y)] 3 :: .box b2 [.val (.int .i64 r.x), .val (.int .i64 r.y), .val (.int .i64 r.w), .val (.int .i64 r.h)] 26 :: h) := by
  have w := fun h => within_c r (r.x + (i : Int)) y h ok hin
  obtain ⟨⟨⟨o1, o2⟩, o3, o4⟩, ⟨⟨o5, o6⟩, o7, o8⟩, o9, o10⟩ := ok
  obtain ⟨⟨i1, i2⟩, i3, i4⟩ := hin
  refine ACalls.intro Try.func46 rfl Try.ntmps46 Try.results46 (Nat.le_of_ble_eq_true rfl) ?_
  (repeat' (first | (refine iS ?_; refine iMu ?_; refine S.mapU ?_) | refine svz ⟨fun b hq => ?_⟩ | refine sv1 ?_ | refine svs ⟨?_⟩ | refine svu ⟨fun u => ?_⟩ | (refine svg (fun hg => ?_) (fun hg => ?_) <;> try (exfalso; first | omega | contradiction)) | (refine svc (fun hc => ?_) (fun hc => ?_) <;> try (exfalso; first | omega | contradiction)) | refine sv2 ?_ | refine svh (fun hb => ?_) (fun hb => ?_) | refine svb (fun b => ?_) | refine sva ?_ | refine sv3 ?_))
  refine S.call ?_; refine (w _).mono ?_; rintro r h' ⟨rfl, hh⟩; subst hh
  (repeat' (first | (refine iS ?_; refine iMu ?_; refine S.mapU ?_) | refine svz ⟨fun b hq => ?_⟩ | refine sv1 ?_ | refine svs ⟨?_⟩ | refine svu ⟨fun u => ?_⟩ | (refine svg (fun hg => ?_) (fun hg => ?_) <;> try (exfalso; first | omega | contradiction)) | (refine svc (fun hc => ?_) (fun hc => ?_) <;> try (exfalso; first | omega | contradiction)) | refine sv2 ?_ | refine svh (fun hb => ?_) (fun hb => ?_) | refine svb (fun b => ?_) | refine sva ?_ | refine sv3 ?_))
  exact fin_r (h' := _) ⟨rfl, rfl⟩
set_option maxRecDepth 100000 in
theorem row_c (r : RC) (y : Int) (h : Heap) (ok : aok r) (hy : -4000000 ≤ y ∧ y ≤ 4000000) : ACalls Try.prog 26 [r.enc, .val (.int .i64 y)] h (fun v h' => v = stE (rowF r y) ∧ h' = h) := by
  show ACalls Try.prog 26 [.agg [.val (.int .i64 r.x), .val (.int .i64 r.y), .val (.int .i64 r.w), .val (.int .i64 r.h)], _] h _
  obtain ⟨⟨⟨o1, o2⟩, o3, o4⟩, ⟨⟨o5, o6⟩, o7, o8⟩, o9, o10⟩ := id ok
  by_cases h1 : y < r.y
  · have e : rowF r y = (0, 0) := by unfold rowF; rw [if_neg (by omega)]
    rw [e]
    refine ACalls.intro Try.func26 rfl Try.ntmps26 Try.results26 (Nat.le_of_ble_eq_true rfl) ?_
    (repeat' (first | (refine iS ?_; refine iMu ?_; refine S.mapU ?_) | refine svz ⟨fun b hq => ?_⟩ | refine sv1 ?_ | refine svs ⟨?_⟩ | refine svu ⟨fun u => ?_⟩ | (refine svg (fun hg => ?_) (fun hg => ?_) <;> try (exfalso; first | omega | contradiction)) | (refine svc (fun hc => ?_) (fun hc => ?_) <;> try (exfalso; first | omega | contradiction)) | refine sv2 ?_ | refine svh (fun hb => ?_) (fun hb => ?_) | refine svb (fun b => ?_) | refine sva ?_ | refine sv3 ?_))
    exact fin_r (h' := h) ⟨rfl, rfl⟩
  by_cases h2 : r.y + r.h ≤ y
  · have e : rowF r y = (0, 0) := by unfold rowF; rw [if_neg (by omega)]
    rw [e]
    refine ACalls.intro Try.func26 rfl Try.ntmps26 Try.results26 (Nat.le_of_ble_eq_true rfl) ?_
    (repeat' (first | (refine iS ?_; refine iMu ?_; refine S.mapU ?_) | refine svz ⟨fun b hq => ?_⟩ | refine sv1 ?_ | refine svs ⟨?_⟩ | refine svu ⟨fun u => ?_⟩ | (refine svg (fun hg => ?_) (fun hg => ?_) <;> try (exfalso; first | omega | contradiction)) | (refine svc (fun hc => ?_) (fun hc => ?_) <;> try (exfalso; first | omega | contradiction)) | refine sv2 ?_ | refine svh (fun hb => ?_) (fun hb => ?_) | refine svb (fun b => ?_) | refine sva ?_ | refine sv3 ?_))
    exact fin_r (h' := h) ⟨rfl, rfl⟩
  have hh : ((halfN r : Nat) : Int) = (r.w + 1) / 2 := by unfold halfN; omega
  have hs : ∀ {fv : AV} {f : Nat} {caps : List AV} [TFun Try.prog f] (hF : Fv fv f caps) (h : Heap) (hp : ∀ i : Nat, i < halfN r → ACalls Try.prog f ([.val (.int .i64 (i : Int))] ++ caps) h (fun v h' => v = .val (.bool (insE r (r.x + (i : Int)) y)) ∧ h' = h)),
      ACalls Try.prog 45 [.val (.int .i64 (halfN r : Int)), fv] h (fun v h' => v = .val (.int .i64 (kF r y : Int)) ∧ h' = h) := fun hF h hp =>
    search_c (halfN r) (fun i => insE r (r.x + (i : Int)) y) hF h (by omega) hp (fun i j hij hj hi => insE_mono (by omega) (by omega) hi)
  have hkl := kF_le r y
  simp only [hh] at hs
  have hin : ∀ i : Nat, i < halfN r → inR r (r.x + (i : Int)) y := fun i hi => by unfold inR; omega
  refine ACalls.intro Try.func26 rfl Try.ntmps26 Try.results26 (Nat.le_of_ble_eq_true rfl) ?_
  (repeat' (first | (refine iS ?_; refine iMu ?_; refine S.mapU ?_) | refine svz ⟨fun b hq => ?_⟩ | refine sv1 ?_ | refine svs ⟨?_⟩ | refine svu ⟨fun u => ?_⟩ | (refine svg (fun hg => ?_) (fun hg => ?_) <;> try (exfalso; first | omega | contradiction)) | (refine svc (fun hc => ?_) (fun hc => ?_) <;> try (exfalso; first | omega | contradiction)) | refine sv2 ?_ | refine svh (fun hb => ?_) (fun hb => ?_) | refine svb (fun b => ?_) | refine sva ?_ | refine sv3 ?_))
  rename_i b2 b3 g1 g2 g3 g4 g5 g6
  revert b; intro b4
  refine S.call ?_
  refine (hs (.clo 46 _) _ (fun i hi => (row1_c r i y b2 b3 h ok (hin i hi)).keep1)).mono ?_
  rintro v h' ⟨rfl, hh2⟩; subst hh2
  by_cases hk : kF r y = halfN r
  · have e : rowF r y = (0, 0) := by unfold rowF; rw [if_pos (by omega), if_pos hk]
    rw [e]
    have hk2 : (kF r y : Int) = (r.w + 1) / 2 := by rw [hk, hh]
    (repeat' (first | (refine iS ?_; refine iMu ?_; refine S.mapU ?_) | refine svz ⟨fun b hq => ?_⟩ | refine sv1 ?_ | refine svs ⟨?_⟩ | refine svu ⟨fun u => ?_⟩ | (refine svg (fun hg => ?_) (fun hg => ?_) <;> try (exfalso; first | omega | contradiction)) | (refine svc (fun hc => ?_) (fun hc => ?_) <;> try (exfalso; first | omega | contradiction)) | refine sv2 ?_ | refine svh (fun hb => ?_) (fun hb => ?_) | refine svb (fun b => ?_) | refine sva ?_ | refine sv3 ?_))
    exact fin_r (h' := h) ⟨rfl, rfl⟩
  · have e : rowF r y = (r.x + (kF r y : Int), r.x + r.w - (kF r y : Int)) := by unfold rowF; rw [if_pos (by omega), if_neg hk]
    rw [e]
    have hk2 : ¬ (kF r y : Int) = (r.w + 1) / 2 := by rw [← hh]; omega
    (repeat' (first | (refine iS ?_; refine iMu ?_; refine S.mapU ?_) | refine svz ⟨fun b hq => ?_⟩ | refine sv1 ?_ | refine svs ⟨?_⟩ | refine svu ⟨fun u => ?_⟩ | (refine svg (fun hg => ?_) (fun hg => ?_) <;> try (exfalso; first | omega | contradiction)) | (refine svc (fun hc => ?_) (fun hc => ?_) <;> try (exfalso; first | omega | contradiction)) | refine sv2 ?_ | refine svh (fun hb => ?_) (fun hb => ?_) | refine svb (fun b => ?_) | refine sva ?_ | refine sv3 ?_))
    exact fin_r (h' := h) ⟨rfl, rfl⟩
set_option maxRecDepth 100000 in
theorem put_c (l : List RC) (y : Int) (s : Int × Int) (v : Value) (h : Heap) (hl : l.length ≤ 20000) (hs : (-4000000 ≤ s.1 ∧ s.1 ≤ 4000000) ∧ -4000000 ≤ s.2 ∧ s.2 ≤ 4000000) : ACalls Try.prog 28 [.val v, .val (.int .i64 y), stE s] (.own v 4 (l.map RC.enc) 26 :: h)
    (fun r h' => ∃ w, r = .val w ∧ h' = .own w 4 ((l ++ putF y s).map RC.enc) 26 :: h) := by
  unfold stE putF
  by_cases hss : s.1 < s.2
  · rw [if_pos hss, List.map_append]
    refine ACalls.intro Try.func28 rfl Try.ntmps28 Try.results28 (Nat.le_of_ble_eq_true rfl) ?_
    show W none _ _ _ ⟨_, _, .own v 4 (l.map RC.enc) 26 :: h⟩
    (repeat' (first | (refine iS ?_; refine iMu ?_; refine S.mapU ?_) | refine svz ⟨fun b hq => ?_⟩ | refine sv1 ?_ | refine svs ⟨?_⟩ | refine svu ⟨fun u => ?_⟩ | (refine svg (fun hg => ?_) (fun hg => ?_) <;> try (exfalso; first | omega | contradiction)) | (refine svc (fun hc => ?_) (fun hc => ?_) <;> try (exfalso; first | omega | contradiction)) | refine sv2 ?_ | refine svh (fun hb => ?_) (fun hb => ?_) | refine svb (fun b => ?_) | refine sva ?_ | refine sv3 ?_))
    exact fin_r (h' := .own u 4 (l.map RC.enc ++ [RC.enc ⟨s.1, y, s.2 - s.1, 1⟩]) 26 :: h) ⟨u, rfl, rfl⟩
  · rw [if_neg hss, List.append_nil]
    refine ACalls.intro Try.func28 rfl Try.ntmps28 Try.results28 (Nat.le_of_ble_eq_true rfl) ?_
    show W none _ _ _ ⟨_, _, .own v 4 (l.map RC.enc) 26 :: h⟩
    (repeat' (first | (refine iS ?_; refine iMu ?_; refine S.mapU ?_) | refine svz ⟨fun b hq => ?_⟩ | refine sv1 ?_ | refine svs ⟨?_⟩ | refine svu ⟨fun u => ?_⟩ | (refine svg (fun hg => ?_) (fun hg => ?_) <;> try (exfalso; first | omega | contradiction)) | (refine svc (fun hc => ?_) (fun hc => ?_) <;> try (exfalso; first | omega | contradiction)) | refine sv2 ?_ | refine svh (fun hb => ?_) (fun hb => ?_) | refine svb (fun b => ?_) | refine sva ?_ | refine sv3 ?_))
    exact fin_r (h' := .own v 4 (l.map RC.enc) 26 :: h) ⟨v, rfl, rfl⟩
set_option maxRecDepth 100000 in
theorem rows_c (r : RC) (h : Heap) : ACalls Try.prog 27 [r.enc] h (fun v h' => ∃ g, v = .clo (.func 47) [.val (.pointer (some ⟨g, 0, none⟩))] ∧ h' = .box g [.val (.int .i64 r.x), .val (.int .i64 r.y), .val (.int .i64 r.w), .val (.int .i64 r.h)] 26 :: h) := by
  show ACalls Try.prog 27 [.agg [.val (.int .i64 r.x), .val (.int .i64 r.y), .val (.int .i64 r.w), .val (.int .i64 r.h)]] h _
  refine ACalls.intro Try.func27 rfl Try.ntmps27 Try.results27 (Nat.le_of_ble_eq_true rfl) ?_
  (repeat' (first | (refine iS ?_; refine iMu ?_; refine S.mapU ?_) | refine svz ⟨fun b hq => ?_⟩ | refine sv1 ?_ | refine svs ⟨?_⟩ | refine svu ⟨fun u => ?_⟩ | (refine svg (fun hg => ?_) (fun hg => ?_) <;> try (exfalso; first | omega | contradiction)) | (refine svc (fun hc => ?_) (fun hc => ?_) <;> try (exfalso; first | omega | contradiction)) | refine sv2 ?_ | refine svh (fun hb => ?_) (fun hb => ?_) | refine svb (fun b => ?_) | refine sva ?_ | refine sv3 ?_))
  exact fin_r (h' := _) ⟨b, rfl, rfl⟩
theorem rowsF_succ (r : RC) (n : Nat) : rowsF r (n + 1) = rowsF r n ++ if (rowF r (r.y + (n : Int))).1 < (rowF r (r.y + (n : Int))).2 then [(r.y + (n : Int), rowF r (r.y + (n : Int)))] else [] := by
  unfold rowsF
  rw [List.range_succ, List.flatMap_append]
  simp only [List.flatMap_cons, List.flatMap_nil, List.append_nil]
theorem rowsF_pre (r : RC) (j : Nat) : ∀ m, ∃ t, rowsF r (j + m) = rowsF r j ++ t
  | 0 => ⟨[], by simp⟩
  | m + 1 => by
    obtain ⟨t, e⟩ := rowsF_pre r j m
    rw [← Nat.add_assoc, rowsF_succ, e, List.append_assoc]
    exact ⟨_, rfl⟩
theorem rowsF_at {r : RC} {n j : Nat} (hj : j < n) (h : (rowF r (r.y + (j : Int))).1 < (rowF r (r.y + (j : Int))).2) : (rowsF r n)[(rowsF r j).length]? = some (r.y + (j : Int), rowF r (r.y + (j : Int))) := by
  obtain ⟨t, e⟩ := rowsF_pre r (j + 1) (n - (j + 1))
  rw [show j + 1 + (n - (j + 1)) = n by omega, rowsF_succ, if_pos h] at e
  rw [e, List.append_assoc, List.getElem?_append_right (Nat.le_refl _), Nat.sub_self]
  rfl
set_option maxRecDepth 100000 in
theorem rows_iter (r : RC) (g : Nat) (ok : aok r) : Iter Try.prog 47 [.val (.pointer (some ⟨g, 0, none⟩))] [.box g [.val (.int .i64 r.x), .val (.int .i64 r.y), .val (.int .i64 r.w), .val (.int .i64 r.h)] 26] ((rowsF r r.h.toNat).map fun p => [.val (.int .i64 p.1), stE p.2]) := by
  obtain ⟨⟨⟨o1, o2⟩, o3, o4⟩, ⟨⟨o5, o6⟩, o7, o8⟩, o9, o10⟩ := id ok
  intro lp R Z hy h h0
  refine ACalls.intro Try.func47 rfl Try.ntmps47 Try.results47 (Nat.le_of_ble_eq_true rfl) ?_
  show W none _ _ _ ⟨_, _, .box g [.val (.int .i64 r.x), .val (.int .i64 r.y), .val (.int .i64 r.w), .val (.int .i64 r.h)] 26 :: h⟩
  (repeat' (first | (refine iS ?_; refine iMu ?_; refine S.mapU ?_) | refine svz ⟨fun b hq => ?_⟩ | refine sv1 ?_ | refine svs ⟨?_⟩ | refine svu ⟨fun u => ?_⟩ | (refine svg (fun hg => ?_) (fun hg => ?_) <;> try (exfalso; first | omega | contradiction)) | (refine svc (fun hc => ?_) (fun hc => ?_) <;> try (exfalso; first | omega | contradiction)) | refine sv2 ?_ | refine svh (fun hb => ?_) (fun hb => ?_) | refine svb (fun b => ?_) | refine sva ?_ | refine sv3 ?_))
  refine W.loop (J := fun q : Nat × Heap => ⟨31, [(3, .val (.int .i64 (r.y + (q.1 : Int)))), (0, .val (.func (.yield lp) #[] #[])), (1, .val (.pointer (some ⟨g, 0, none⟩)))], .box g [.val (.int .i64 r.x), .val (.int .i64 r.y), .val (.int .i64 r.w), .val (.int .i64 r.h)] 26 :: q.2⟩)
    (Φ := fun q => q.1 ≤ r.h.toNat ∧ R (rowsF r q.1).length q.2) (μ := fun q => r.h.toNat - q.1) (0, h) (by dsimp only; rw [show r.y + ((0 : Nat) : Int) = r.y by omega]; exact ⟨rfl, (by repeat (first | exact LeT.nil | refine LeT.cons rfl ?_ | refine LeT.consw rfl (by (repeat (first | exact Wk.refl _ | exact Wk.nilr _ | exact Wk.nilm | apply Wk.aggc | apply Wk.tupc | exact Wk.aggn | exact Wk.tupn)); first | done | fail) ?_)), (by repeat (first | exact LeH.refl _ | exact LeH.nil _ | refine LeH.cons (by (fail_if_success (apply tkG)); (repeat (first | exact Tk.here | apply Tk.there)); first | done | fail) ?_ | refine LeH.boxw (by (fail_if_success (apply tkG)); (repeat (first | exact Tk.here | apply Tk.there)); first | done | fail) (by (repeat (first | exact Wk.refl _ | exact Wk.nilr _ | exact Wk.nilm | apply Wk.aggc | apply Wk.tupc | exact Wk.aggn | exact Wk.tupn)); first | done | fail) ?_ | refine LeH.skip ?_))⟩) ⟨Nat.zero_le _, h0⟩ ?_
  rintro ⟨j, hh⟩ ⟨hj, hR⟩
  dsimp only at hj hR ⊢
  rcases Nat.lt_or_ge j r.h.toNat with hlt | hge
  · have hrc := fun h => row_c r (r.y + (j : Int)) h ok (by omega)
    have hsu := rowsF_succ r j
    have hat := rowsF_at (r := r) hlt
    have ej : r.y + (j : Int) + 1 = r.y + ((j + 1 : Nat) : Int) := by omega
    unfold stE at hrc ⊢
    generalize rowF r (r.y + (j : Int)) = s at *
    (repeat' ((fail_if_success (refine iYd ?_)); (first | (refine iS ?_; refine iMu ?_; refine S.mapU ?_) | refine svz ⟨fun b hq => ?_⟩ | refine sv1 ?_ | refine svs ⟨?_⟩ | refine svu ⟨fun u => ?_⟩ | (refine svg (fun hg => ?_) (fun hg => ?_) <;> try (exfalso; first | omega | contradiction)) | (refine svc (fun hc => ?_) (fun hc => ?_) <;> try (exfalso; first | omega | contradiction)) | refine sv2 ?_ | refine svh (fun hb => ?_) (fun hb => ?_) | refine svb (fun b => ?_) | refine sva ?_ | refine sv3 ?_)))
    refine S.call ?_; refine (hrc _).mono ?_; rintro r h' ⟨rfl, hh⟩; subst hh
    by_cases hs : s.1 < s.2
    · rw [if_pos hs] at hsu
      have hk : (rowsF r (j + 1)).length = (rowsF r j).length + 1 := by rw [hsu, List.length_append]; rfl
      (repeat' ((fail_if_success (refine iYd ?_)); (first | (refine iS ?_; refine iMu ?_; refine S.mapU ?_) | refine svz ⟨fun b hq => ?_⟩ | refine sv1 ?_ | refine svs ⟨?_⟩ | refine svu ⟨fun u => ?_⟩ | (refine svg (fun hg => ?_) (fun hg => ?_) <;> try (exfalso; first | omega | contradiction)) | (refine svc (fun hc => ?_) (fun hc => ?_) <;> try (exfalso; first | omega | contradiction)) | refine sv2 ?_ | refine svh (fun hb => ?_) (fun hb => ?_) | refine svb (fun b => ?_) | refine sva ?_ | refine sv3 ?_)))
      refine RL.yieldg ((hy (rowsF r j).length _ hh hR (by rw [List.getElem?_map, hat hs]; rfl)).keep2.mono ?_) (decide_eq_true hs)
      rintro bb h' ⟨h1, (⟨rfl, hR'⟩ | ⟨rfl, hZ⟩), rfl⟩
      · (repeat' ((fail_if_success (refine iYd ?_)); (first | (refine iS ?_; refine iMu ?_; refine S.mapU ?_) | refine svz ⟨fun b hq => ?_⟩ | refine sv1 ?_ | refine svs ⟨?_⟩ | refine svu ⟨fun u => ?_⟩ | (refine svg (fun hg => ?_) (fun hg => ?_) <;> try (exfalso; first | omega | contradiction)) | (refine svc (fun hc => ?_) (fun hc => ?_) <;> try (exfalso; first | omega | contradiction)) | refine sv2 ?_ | refine svh (fun hb => ?_) (fun hb => ?_) | refine svb (fun b => ?_) | refine sva ?_ | refine sv3 ?_)))
        rw [ej]
        exact ⟨(j + 1, h1), ⟨hlt, by dsimp only; rw [hk]; exact hR'⟩, ⟨rfl, (by repeat (first | exact LeT.nil | refine LeT.cons rfl ?_ | refine LeT.consw rfl (by (repeat (first | exact Wk.refl _ | exact Wk.nilr _ | exact Wk.nilm | apply Wk.aggc | apply Wk.tupc | exact Wk.aggn | exact Wk.tupn)); first | done | fail) ?_)), (by repeat (first | exact LeH.refl _ | exact LeH.nil _ | refine LeH.cons (by (fail_if_success (apply tkG)); (repeat (first | exact Tk.here | apply Tk.there)); first | done | fail) ?_ | refine LeH.boxw (by (fail_if_success (apply tkG)); (repeat (first | exact Tk.here | apply Tk.there)); first | done | fail) (by (repeat (first | exact Wk.refl _ | exact Wk.nilr _ | exact Wk.nilm | apply Wk.aggc | apply Wk.tupc | exact Wk.aggn | exact Wk.tupn)); first | done | fail) ?_ | refine LeH.skip ?_))⟩, by dsimp only; omega⟩
      · (repeat' ((fail_if_success (refine iYd ?_)); (first | (refine iS ?_; refine iMu ?_; refine S.mapU ?_) | refine svz ⟨fun b hq => ?_⟩ | refine sv1 ?_ | refine svs ⟨?_⟩ | refine svu ⟨fun u => ?_⟩ | (refine svg (fun hg => ?_) (fun hg => ?_) <;> try (exfalso; first | omega | contradiction)) | (refine svc (fun hc => ?_) (fun hc => ?_) <;> try (exfalso; first | omega | contradiction)) | refine sv2 ?_ | refine svh (fun hb => ?_) (fun hb => ?_) | refine svb (fun b => ?_) | refine sva ?_ | refine sv3 ?_)))
        exact fin_r (h' := .box g [.val (.int .i64 r.x), .val (.int .i64 r.y), .val (.int .i64 r.w), .val (.int .i64 r.h)] 26 :: h1) ⟨h1, rfl, .inr hZ⟩
    · rw [if_neg hs, List.append_nil] at hsu
      (repeat' (first | (refine iS ?_; refine iMu ?_; refine S.mapU ?_) | refine svz ⟨fun b hq => ?_⟩ | refine sv1 ?_ | refine svs ⟨?_⟩ | refine svu ⟨fun u => ?_⟩ | (refine svg (fun hg => ?_) (fun hg => ?_) <;> try (exfalso; first | omega | contradiction)) | (refine svc (fun hc => ?_) (fun hc => ?_) <;> try (exfalso; first | omega | contradiction)) | refine sv2 ?_ | refine svh (fun hb => ?_) (fun hb => ?_) | refine svb (fun b => ?_) | refine sva ?_ | refine sv3 ?_))
      rw [ej]
      exact ⟨(j + 1, hh), ⟨hlt, by dsimp only; rw [hsu]; exact hR⟩, ⟨rfl, (by repeat (first | exact LeT.nil | refine LeT.cons rfl ?_ | refine LeT.consw rfl (by (repeat (first | exact Wk.refl _ | exact Wk.nilr _ | exact Wk.nilm | apply Wk.aggc | apply Wk.tupc | exact Wk.aggn | exact Wk.tupn)); first | done | fail) ?_)), (by repeat (first | exact LeH.refl _ | exact LeH.nil _ | refine LeH.cons (by (fail_if_success (apply tkG)); (repeat (first | exact Tk.here | apply Tk.there)); first | done | fail) ?_ | refine LeH.boxw (by (fail_if_success (apply tkG)); (repeat (first | exact Tk.here | apply Tk.there)); first | done | fail) (by (repeat (first | exact Wk.refl _ | exact Wk.nilr _ | exact Wk.nilm | apply Wk.aggc | apply Wk.tupc | exact Wk.aggn | exact Wk.tupn)); first | done | fail) ?_ | refine LeH.skip ?_))⟩, by dsimp only; omega⟩
  · have e : j = r.h.toNat := by omega
    subst e
    (repeat' ((fail_if_success (refine iYd ?_)); (first | (refine iS ?_; refine iMu ?_; refine S.mapU ?_) | refine svz ⟨fun b hq => ?_⟩ | refine sv1 ?_ | refine svs ⟨?_⟩ | refine svu ⟨fun u => ?_⟩ | (refine svg (fun hg => ?_) (fun hg => ?_) <;> try (exfalso; first | omega | contradiction)) | (refine svc (fun hc => ?_) (fun hc => ?_) <;> try (exfalso; first | omega | contradiction)) | refine sv2 ?_ | refine svh (fun hb => ?_) (fun hb => ?_) | refine svb (fun b => ?_) | refine sva ?_ | refine sv3 ?_)))
    exact fin_n (h' := .box g [.val (.int .i64 r.x), .val (.int .i64 r.y), .val (.int .i64 r.w), .val (.int .i64 r.h)] 26 :: hh) ⟨hh, rfl, .inl (by rw [List.length_map]; exact hR)⟩
end Go.Proofs.Ytmkpffckhdofbaa
