/- region's small closures. No condition. -/
import Derived.Test.YtnedgbhbbpjllaaB1
namespace Go.Proofs.Ytnedgbhbbpjllaa
open Go Go.VM
attribute [local irreducible] PurV Pur Step RL W D ACalls Then InBlock Fini
set_option linter.unusedVariables false
set_option linter.unusedSimpArgs false
set_option maxRecDepth 100000 in
theorem meet1_c (p q : Bool) (h : Heap) : ACalls Try.prog 47 [.val (.bool p), .val (.bool q)] h (fun r h' => r = .val (.bool (p && q)) ∧ h' = h) := by
  refine ACalls.intro Try.func47 rfl Try.ntmps47 Try.results47 (Nat.le_of_ble_eq_true rfl) ?_
  cases p <;> cases q <;> ((repeat' (first | (refine iS ?_; refine iMu ?_; refine S.mapU ?_) | refine svz ⟨fun b hq => ?_⟩ | refine sv1 ?_ | refine svs ⟨?_⟩ | refine svu ⟨fun u => ?_⟩ | (refine svg (fun hg => ?_) (fun hg => ?_) <;> try (exfalso; first | omega | contradiction)) | (refine svc (fun hc => ?_) (fun hc => ?_) <;> try (exfalso; first | omega | contradiction)) | refine sv2 ?_ | refine svh (fun hb => ?_) (fun hb => ?_) | refine svb (fun b => ?_) | refine sva ?_ | refine sv3 ?_)); exact fin_r (h' := h) ⟨rfl, rfl⟩)
set_option maxRecDepth 100000 in
theorem minus1_c (p q : Bool) (h : Heap) : ACalls Try.prog 51 [.val (.bool p), .val (.bool q)] h (fun r h' => r = .val (.bool (p && !q)) ∧ h' = h) := by
  refine ACalls.intro Try.func51 rfl Try.ntmps51 Try.results51 (Nat.le_of_ble_eq_true rfl) ?_
  cases p <;> cases q <;> ((repeat' (first | (refine iS ?_; refine iMu ?_; refine S.mapU ?_) | refine svz ⟨fun b hq => ?_⟩ | refine sv1 ?_ | refine svs ⟨?_⟩ | refine svu ⟨fun u => ?_⟩ | (refine svg (fun hg => ?_) (fun hg => ?_) <;> try (exfalso; first | omega | contradiction)) | (refine svc (fun hc => ?_) (fun hc => ?_) <;> try (exfalso; first | omega | contradiction)) | refine sv2 ?_ | refine svh (fun hb => ?_) (fun hb => ?_) | refine svb (fun b => ?_) | refine sva ?_ | refine sv3 ?_)); exact fin_r (h' := h) ⟨rfl, rfl⟩)
set_option maxRecDepth 100000 in
theorem xor1_c (p q : Bool) (h : Heap) : ACalls Try.prog 50 [.val (.bool p), .val (.bool q)] h (fun r h' => r = .val (.bool (p != q)) ∧ h' = h) := by
  refine ACalls.intro Try.func50 rfl Try.ntmps50 Try.results50 (Nat.le_of_ble_eq_true rfl) ?_
  cases p <;> cases q <;> ((repeat' (first | (refine iS ?_; refine iMu ?_; refine S.mapU ?_) | refine svz ⟨fun b hq => ?_⟩ | refine sv1 ?_ | refine svs ⟨?_⟩ | refine svu ⟨fun u => ?_⟩ | (refine svg (fun hg => ?_) (fun hg => ?_) <;> try (exfalso; first | omega | contradiction)) | (refine svc (fun hc => ?_) (fun hc => ?_) <;> try (exfalso; first | omega | contradiction)) | refine sv2 ?_ | refine svh (fun hb => ?_) (fun hb => ?_) | refine svb (fun b => ?_) | refine sva ?_ | refine sv3 ?_)); exact fin_r (h' := h) ⟨rfl, rfl⟩)
set_option maxRecDepth 100000 in
theorem tellY_c (r : RC) (h : Heap) : ACalls Try.prog 65 [r.enc] h (fun v h' => v = .tup [.val (.int .i64 r.y), .val (.int .i64 r.h)] ∧ h' = h) := by
  refine ACalls.intro Try.func65 rfl Try.ntmps65 Try.results65 (Nat.le_of_ble_eq_true rfl) ?_
  (repeat' (first | (refine iS ?_; refine iMu ?_; refine S.mapU ?_) | refine svz ⟨fun b hq => ?_⟩ | refine sv1 ?_ | refine svs ⟨?_⟩ | refine svu ⟨fun u => ?_⟩ | (refine svg (fun hg => ?_) (fun hg => ?_) <;> try (exfalso; first | omega | contradiction)) | (refine svc (fun hc => ?_) (fun hc => ?_) <;> try (exfalso; first | omega | contradiction)) | refine sv2 ?_ | refine svh (fun hb => ?_) (fun hb => ?_) | refine svb (fun b => ?_) | refine sva ?_ | refine sv3 ?_))
  exact fin_r (h' := h) ⟨rfl, rfl⟩
set_option maxRecDepth 100000 in
theorem tellX_c (r : RC) (h : Heap) : ACalls Try.prog 67 [r.enc] h (fun v h' => v = .tup [.val (.int .i64 r.x), .val (.int .i64 r.w)] ∧ h' = h) := by
  refine ACalls.intro Try.func67 rfl Try.ntmps67 Try.results67 (Nat.le_of_ble_eq_true rfl) ?_
  (repeat' (first | (refine iS ?_; refine iMu ?_; refine S.mapU ?_) | refine svz ⟨fun b hq => ?_⟩ | refine sv1 ?_ | refine svs ⟨?_⟩ | refine svu ⟨fun u => ?_⟩ | (refine svg (fun hg => ?_) (fun hg => ?_) <;> try (exfalso; first | omega | contradiction)) | (refine svc (fun hc => ?_) (fun hc => ?_) <;> try (exfalso; first | omega | contradiction)) | refine sv2 ?_ | refine svh (fun hb => ?_) (fun hb => ?_) | refine svb (fun b => ?_) | refine sva ?_ | refine sv3 ?_))
  exact fin_r (h' := h) ⟨rfl, rfl⟩
set_option maxRecDepth 100000 in
theorem moved_c (a n d : Int) (h : Heap) (ha : -4000000 ≤ a ∧ a ≤ 4000000) (hn : -4000000 ≤ n ∧ n ≤ 4000000) (hd : -4000000 ≤ d ∧ d ≤ 4000000) : ACalls Try.prog 52 [.val (.int .i64 a), .val (.int .i64 n), .val (.int .i64 d)] h
    (fun v h' => v = .tup [.val (.int .i64 (max (a + d) (-1048576))), .val (.int .i64 (min (a + d + n) 1048576 - max (a + d) (-1048576)))] ∧ h' = h) := by
  refine ACalls.intro Try.func52 rfl Try.ntmps52 Try.results52 (Nat.le_of_ble_eq_true rfl) ?_
  (repeat' (first | (refine iS ?_; refine iMu ?_; refine S.mapU ?_) | refine svz ⟨fun b hq => ?_⟩ | refine sv1 ?_ | refine svs ⟨?_⟩ | refine svu ⟨fun u => ?_⟩ | (refine svg (fun hg => ?_) (fun hg => ?_) <;> try (exfalso; first | omega | contradiction)) | (refine svc (fun hc => ?_) (fun hc => ?_) <;> try (exfalso; first | omega | contradiction)) | refine sv2 ?_ | refine svh (fun hb => ?_) (fun hb => ?_) | refine svb (fun b => ?_) | refine sva ?_ | refine sv3 ?_))
  exact fin_r (h' := h) ⟨rfl, rfl⟩
end Go.Proofs.Ytnedgbhbbpjllaa
