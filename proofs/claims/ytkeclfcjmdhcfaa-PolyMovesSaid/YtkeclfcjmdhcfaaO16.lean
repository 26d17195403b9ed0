/- The law's own example; what comes in at layer 22. No condition. -/
import Derived.Test.YtkeclfcjmdhcfaaO15
import Derived.Test.YtkeclfcjmdhcfaaVR4
import Derived.Test.YtkeclfcjmdhcfaaO6
namespace Go.Proofs.Ytkeclfcjmdhcfaa
open Go Go.VM
attribute [local irreducible] PurV Pur Step RL W D ACalls Then InBlock Fini
set_option linter.unusedVariables false
set_option linter.unusedSimpArgs false
set_option maxHeartbeats 20000000
theorem turns_outx {l : List PT} {x y lo hi : Int} (hl : ∀ q ∈ l, lo ≤ q.x ∧ q.x ≤ hi) (h : x < lo ∨ hi ≤ x) : turnsF l x y = 0 := by
  rw [turns_at]
  unfold turnsAt
  rcases h with h | h
  · rw [sumF_congr (g := fun _ => (0 : Int) - 0) fun p hp => by have := ps_in hl hp; rw [if_neg (by omega)]; rfl]
    rw [sumF_sub]; omega
  · rw [sumF_congr (g := fun p : Int × Int => p.2) fun p hp => by have := ps_in hl hp; rw [if_pos (by omega)]]
    exact ps_zero l y
theorem insF_z (r : Int) : insF r 0 = false := by unfold insF; split <;> rfl
theorem PolyD.bx {r : Int} {l : List PT} {D : List RC} (hD : PolyD r l D) {K : Int} {n : Nat} (hl : ∀ q ∈ l, (-K ≤ q.x ∧ q.x ≤ n - K) ∧ -K ≤ q.y ∧ q.y ≤ n - K) : Bx K n (ofF D) := .of_has (can_of _) fun x y h => by
  rw [has_ofF, hD.has] at h
  have h1 : ¬ (x < -K ∨ n - K ≤ x) := fun g => by rw [turns_outx (fun q hq => (hl q hq).1) g, insF_z] at h; cases h
  have h2 : ¬ (y < -K ∨ n - K ≤ y) := fun g => by rw [turns_out (fun q hq => (hl q hq).2) g, insF_z] at h; cases h
  omega
theorem pt_fit {N : Nat} {x : AV} (h : FitE N (.fld 1 (.int .i64) (.fld 1 (.int .i64) (.nil))) x) : ∃ p : PT, x = p.enc ∧ p.ok := by
  obtain ⟨_, rfl, _, _, rfl, _, ⟨a, rfl, ha⟩, _, _, rfl, _, ⟨b, rfl, hb⟩, rfl⟩ := h
  exact ⟨⟨a, b⟩, rfl, wf_i64 ha, wf_i64 hb⟩
theorem qp_fit {N : Nat} {x : AV} (h : FitE N (.fld 1 (.int .i8) (.fld 1 (.int .i8) (.nil))) x) : ∃ q : QP, x = q.enc ∧ q.ok := by
  obtain ⟨_, rfl, _, _, rfl, _, ⟨a, rfl, ha⟩, _, _, rfl, _, ⟨b, rfl, hb⟩, rfl⟩ := h
  exact ⟨⟨a, b⟩, rfl, wf_i8 ha, wf_i8 hb⟩
def triP : List PT := [⟨0, 0⟩, ⟨4, 0⟩, ⟨0, 4⟩]
theorem tri_area : grid 0 4 (fun x y => insF 0 (turnsF triP x y)) = 6 := by decide +kernel
set_option maxRecDepth 100000 in
theorem awake_c (h : Heap) : ACalls Try.prog 11 [] h (fun r h' => r = .val (.bool true) ∧ h' = h) := by
  have o1 := fun h => region_c 0 triP h (fun _ => by decide)
  have o2 := fun h => pinside_c 1 0 2 triP h
  have o3 := fun h => twice_c triP h
  rw [show insideX 1 0 2 triP = true from by decide +kernel] at o2
  rw [show twiceX triP = 16 from by decide +kernel] at o3
  rw [show checkF 0 triP = 0 from by decide +kernel] at o1
  have hb : ∀ D, PolyD 0 triP D → Bx 0 4 (ofF D) := fun D hD => hD.bx (by decide)
  have h1 : insF 0 (turnsF triP 2 0) = true := by decide +kernel
  have h2 : insF 0 (turnsF triP 3 0) = false := by decide +kernel
  have h3 := tri_area
  rw [show triP.map PT.enc = [.agg [.val (.int .i64 (0)), .val (.int .i64 (0))], .agg [.val (.int .i64 (4)), .val (.int .i64 (0))], .agg [.val (.int .i64 (0)), .val (.int .i64 (4))]] from rfl] at *
  generalize triP = l at *
  refine ACalls.intro Try.func11 rfl Try.ntmps11 Try.results11 (Nat.le_of_ble_eq_true rfl) ?_
  (repeat' (first | (refine iS ?_; refine iN ?_; first | refine S.build1r ?_ | refine S.build2r ?_ | refine S.build3r ?_) | (refine iR2 ?_; refine r2b ?_; refine R2.one ?_) | (refine iS ?_; refine iMu ?_; refine S.mapU ?_) | refine svz ⟨fun b hq => ?_⟩ | refine sv1 ?_ | refine svs ⟨?_⟩ | refine svu ⟨fun u => ?_⟩ | (refine svg (fun hg => ?_) (fun hg => ?_) <;> try (exfalso; first | omega | contradiction)) | (refine svc (fun hc => ?_) (fun hc => ?_) <;> try (exfalso; first | omega | contradiction)) | refine sv2 ?_ | refine svh (fun hb => ?_) (fun hb => ?_) | refine svb (fun b => ?_) | refine sva ?_ | refine sv3 ?_))
  refine S.call ?_
  refine (o1 _).mono ?_
  rintro v h' ⟨D, hD, _, rfl, hh⟩; subst hh
  have hD := hD rfl
  have bx := hb D hD
  have o4 := fun h => barea_c (ofF D) h (by have := bx.len; omega) (fun r hr => (bx.can.cnt r hr).sm)
  rw [bx.area, show hasR (ofF D) = fun x y => insF 0 (turnsF l x y) from by funext x y; rw [has_ofF, hD.has], h3] at o4
  have o5 := fun x y h => bhas_c (ofF D) x y h (by have := bx.len; omega) bx.can.cnt bx.can.y
  have o51 := o5 2 0
  have o52 := o5 3 0
  rw [has_ofF, hD.has, h1] at o51
  rw [has_ofF, hD.has, h2] at o52
  clear o5 hD bx hb h1 h2 h3 o1
  generalize ofF D = R0 at *
  unfold regE at *
  (repeat' (first | (refine iS ?_; refine iN ?_; first | refine S.build1r ?_ | refine S.build2r ?_ | refine S.build3r ?_) | (refine iR2 ?_; refine r2b ?_; refine R2.one ?_) | (refine iS ?_; refine iMu ?_; refine S.mapU ?_) | refine svz ⟨fun b hq => ?_⟩ | refine sv1 ?_ | refine svs ⟨?_⟩ | refine svu ⟨fun u => ?_⟩ | (refine svg (fun hg => ?_) (fun hg => ?_) <;> try (exfalso; first | omega | contradiction)) | (refine svc (fun hc => ?_) (fun hc => ?_) <;> try (exfalso; first | omega | contradiction)) | refine sv2 ?_ | refine svh (fun hb => ?_) (fun hb => ?_) | refine svb (fun b => ?_) | refine sva ?_ | refine sv3 ?_))
  refine S.call ?_; refine (o4 _).mono ?_; rintro r h' ⟨rfl, hh⟩; subst hh
  (repeat' (first | (refine iS ?_; refine iN ?_; first | refine S.build1r ?_ | refine S.build2r ?_ | refine S.build3r ?_) | (refine iR2 ?_; refine r2b ?_; refine R2.one ?_) | (refine iS ?_; refine iMu ?_; refine S.mapU ?_) | refine svz ⟨fun b hq => ?_⟩ | refine sv1 ?_ | refine svs ⟨?_⟩ | refine svu ⟨fun u => ?_⟩ | (refine svg (fun hg => ?_) (fun hg => ?_) <;> try (exfalso; first | omega | contradiction)) | (refine svc (fun hc => ?_) (fun hc => ?_) <;> try (exfalso; first | omega | contradiction)) | refine sv2 ?_ | refine svh (fun hb => ?_) (fun hb => ?_) | refine svb (fun b => ?_) | refine sva ?_ | refine sv3 ?_))
  refine S.call ?_; refine (o51 _).mono ?_; rintro r h' ⟨rfl, hh⟩; subst hh
  (repeat' (first | (refine iS ?_; refine iN ?_; first | refine S.build1r ?_ | refine S.build2r ?_ | refine S.build3r ?_) | (refine iR2 ?_; refine r2b ?_; refine R2.one ?_) | (refine iS ?_; refine iMu ?_; refine S.mapU ?_) | refine svz ⟨fun b hq => ?_⟩ | refine sv1 ?_ | refine svs ⟨?_⟩ | refine svu ⟨fun u => ?_⟩ | (refine svg (fun hg => ?_) (fun hg => ?_) <;> try (exfalso; first | omega | contradiction)) | (refine svc (fun hc => ?_) (fun hc => ?_) <;> try (exfalso; first | omega | contradiction)) | refine sv2 ?_ | refine svh (fun hb => ?_) (fun hb => ?_) | refine svb (fun b => ?_) | refine sva ?_ | refine sv3 ?_))
  refine S.call ?_; refine (o52 _).mono ?_; rintro r h' ⟨rfl, hh⟩; subst hh
  (repeat' (first | (refine iS ?_; refine iN ?_; first | refine S.build1r ?_ | refine S.build2r ?_ | refine S.build3r ?_) | (refine iR2 ?_; refine r2b ?_; refine R2.one ?_) | (refine iS ?_; refine iMu ?_; refine S.mapU ?_) | refine svz ⟨fun b hq => ?_⟩ | refine sv1 ?_ | refine svs ⟨?_⟩ | refine svu ⟨fun u => ?_⟩ | (refine svg (fun hg => ?_) (fun hg => ?_) <;> try (exfalso; first | omega | contradiction)) | (refine svc (fun hc => ?_) (fun hc => ?_) <;> try (exfalso; first | omega | contradiction)) | refine sv2 ?_ | refine svh (fun hb => ?_) (fun hb => ?_) | refine svb (fun b => ?_) | refine sva ?_ | refine sv3 ?_))
  refine S.call ?_; refine (o2 _).mono ?_; rintro r h' ⟨rfl, hh⟩; subst hh
  (repeat' (first | (refine iS ?_; refine iN ?_; first | refine S.build1r ?_ | refine S.build2r ?_ | refine S.build3r ?_) | (refine iR2 ?_; refine r2b ?_; refine R2.one ?_) | (refine iS ?_; refine iMu ?_; refine S.mapU ?_) | refine svz ⟨fun b hq => ?_⟩ | refine sv1 ?_ | refine svs ⟨?_⟩ | refine svu ⟨fun u => ?_⟩ | (refine svg (fun hg => ?_) (fun hg => ?_) <;> try (exfalso; first | omega | contradiction)) | (refine svc (fun hc => ?_) (fun hc => ?_) <;> try (exfalso; first | omega | contradiction)) | refine sv2 ?_ | refine svh (fun hb => ?_) (fun hb => ?_) | refine svb (fun b => ?_) | refine sva ?_ | refine sv3 ?_))
  refine S.call ?_; refine (o3 _).mono ?_; rintro r h' ⟨rfl, hh⟩; subst hh
  (repeat' (first | (refine iS ?_; refine iN ?_; first | refine S.build1r ?_ | refine S.build2r ?_ | refine S.build3r ?_) | (refine iR2 ?_; refine r2b ?_; refine R2.one ?_) | (refine iS ?_; refine iMu ?_; refine S.mapU ?_) | refine svz ⟨fun b hq => ?_⟩ | refine sv1 ?_ | refine svs ⟨?_⟩ | refine svu ⟨fun u => ?_⟩ | (refine svg (fun hg => ?_) (fun hg => ?_) <;> try (exfalso; first | omega | contradiction)) | (refine svc (fun hc => ?_) (fun hc => ?_) <;> try (exfalso; first | omega | contradiction)) | refine sv2 ?_ | refine svh (fun hb => ?_) (fun hb => ?_) | refine svb (fun b => ?_) | refine sva ?_ | refine sv3 ?_))
  exact fin_r (h' := h') ⟨rfl, rfl⟩
end Go.Proofs.Ytkeclfcjmdhcfaa
