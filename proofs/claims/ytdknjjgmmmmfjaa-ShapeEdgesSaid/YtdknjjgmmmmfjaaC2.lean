/- region's small closures. No condition. -/
import Derived.Test.YtdknjjgmmmmfjaaB1
namespace Go.Proofs.Ytdknjjgmmmmfjaa
open Go Go.VM
attribute [local irreducible] PurV Pur Step RL W D ACalls Then InBlock Fini
set_option linter.unusedVariables false
set_option linter.unusedSimpArgs false
set_option maxRecDepth 100000 in
theorem meet1_c (p q : Bool) (h : Heap) : ACalls Try.prog 72 [.val (.bool p), .val (.bool q)] h (fun r h' => r = .val (.bool (p && q)) ∧ h' = h) := by
  refine ACalls.intro Try.func72 rfl Try.ntmps72 Try.results72 (Nat.le_of_ble_eq_true rfl) ?_
  cases p <;> cases q <;> ((repeat' (first | (refine iS ?_; refine iMu ?_; refine S.mapU ?_) | refine svz ⟨fun b hq => ?_⟩ | refine sv1 ?_ | refine svs ⟨?_⟩ | refine svu ⟨fun u => ?_⟩ | (refine svg (fun hg => ?_) (fun hg => ?_) <;> try (exfalso; first | omega | contradiction)) | (refine svc (fun hc => ?_) (fun hc => ?_) <;> try (exfalso; first | omega | contradiction)) | refine sv2 ?_ | refine svh (fun hb => ?_) (fun hb => ?_) | refine svb (fun b => ?_) | refine sva ?_ | refine sv3 ?_)); exact fin_r (h' := h) ⟨rfl, rfl⟩)
set_option maxRecDepth 100000 in
theorem minus1_c (p q : Bool) (h : Heap) : ACalls Try.prog 70 [.val (.bool p), .val (.bool q)] h (fun r h' => r = .val (.bool (p && !q)) ∧ h' = h) := by
  refine ACalls.intro Try.func70 rfl Try.ntmps70 Try.results70 (Nat.le_of_ble_eq_true rfl) ?_
  cases p <;> cases q <;> ((repeat' (first | (refine iS ?_; refine iMu ?_; refine S.mapU ?_) | refine svz ⟨fun b hq => ?_⟩ | refine sv1 ?_ | refine svs ⟨?_⟩ | refine svu ⟨fun u => ?_⟩ | (refine svg (fun hg => ?_) (fun hg => ?_) <;> try (exfalso; first | omega | contradiction)) | (refine svc (fun hc => ?_) (fun hc => ?_) <;> try (exfalso; first | omega | contradiction)) | refine sv2 ?_ | refine svh (fun hb => ?_) (fun hb => ?_) | refine svb (fun b => ?_) | refine sva ?_ | refine sv3 ?_)); exact fin_r (h' := h) ⟨rfl, rfl⟩)
set_option maxRecDepth 100000 in
theorem tellY_c (r : RC) (h : Heap) : ACalls Try.prog 87 [r.enc] h (fun v h' => v = .tup [.val (.int .i64 r.y), .val (.int .i64 r.h)] ∧ h' = h) := by
  refine ACalls.intro Try.func87 rfl Try.ntmps87 Try.results87 (Nat.le_of_ble_eq_true rfl) ?_
  (repeat' (first | (refine iS ?_; refine iMu ?_; refine S.mapU ?_) | refine svz ⟨fun b hq => ?_⟩ | refine sv1 ?_ | refine svs ⟨?_⟩ | refine svu ⟨fun u => ?_⟩ | (refine svg (fun hg => ?_) (fun hg => ?_) <;> try (exfalso; first | omega | contradiction)) | (refine svc (fun hc => ?_) (fun hc => ?_) <;> try (exfalso; first | omega | contradiction)) | refine sv2 ?_ | refine svh (fun hb => ?_) (fun hb => ?_) | refine svb (fun b => ?_) | refine sva ?_ | refine sv3 ?_))
  exact fin_r (h' := h) ⟨rfl, rfl⟩
set_option maxRecDepth 100000 in
theorem tellX_c (r : RC) (h : Heap) : ACalls Try.prog 89 [r.enc] h (fun v h' => v = .tup [.val (.int .i64 r.x), .val (.int .i64 r.w)] ∧ h' = h) := by
  refine ACalls.intro Try.func89 rfl Try.ntmps89 Try.results89 (Nat.le_of_ble_eq_true rfl) ?_
  (repeat' (first | (refine iS ?_; refine iMu ?_; refine S.mapU ?_) | refine svz ⟨fun b hq => ?_⟩ | refine sv1 ?_ | refine svs ⟨?_⟩ | refine svu ⟨fun u => ?_⟩ | (refine svg (fun hg => ?_) (fun hg => ?_) <;> try (exfalso; first | omega | contradiction)) | (refine svc (fun hc => ?_) (fun hc => ?_) <;> try (exfalso; first | omega | contradiction)) | refine sv2 ?_ | refine svh (fun hb => ?_) (fun hb => ?_) | refine svb (fun b => ?_) | refine sva ?_ | refine sv3 ?_))
  exact fin_r (h' := h) ⟨rfl, rfl⟩
end Go.Proofs.Ytdknjjgmmmmfjaa
