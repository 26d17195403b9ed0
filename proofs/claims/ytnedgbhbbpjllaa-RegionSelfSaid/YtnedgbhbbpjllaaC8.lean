/- What the laws hand in as functions; the example. No condition. -/
import Derived.Test.YtnedgbhbbpjllaaC7
namespace Go.Proofs.Ytnedgbhbbpjllaa
open Go Go.VM
attribute [local irreducible] PurV Pur Step RL W D ACalls Then InBlock Fini
set_option linter.unusedVariables false
set_option linter.unusedSimpArgs false
set_option maxHeartbeats 20000000
instance : TFun Try.prog 24 := ⟨by kernel_rfl⟩
instance : TFun Try.prog 25 := ⟨by kernel_rfl⟩
instance : TFun Try.prog 26 := ⟨by kernel_rfl⟩
instance : TFun Try.prog 27 := ⟨by kernel_rfl⟩
instance : TFun Try.prog 28 := ⟨by kernel_rfl⟩
section
variable (P Q : List RC) (x y : Int) (bp bq : Nat) (h : Heap) (hP : ∀ r ∈ P, r.ok) (hQ : ∀ r ∈ Q, r.ok)
include hP hQ
set_option maxRecDepth 100000 in
theorem sets1_c : ACalls Try.prog 24 [.val (.int .i64 x), .val (.int .i64 y), .val (.pointer (some ⟨bp, 0, none⟩)), .val (.pointer (some ⟨bq, 0, none⟩))] (.box bq [.ro 4 (Q.map RC.enc)] 24 :: .box bp [.ro 4 (P.map RC.enc)] 24 :: h) (fun r h' => r = .val (.bool (hasF P x y || hasF Q x y)) ∧ h' = (.box bq [.ro 4 (Q.map RC.enc)] 24 :: .box bp [.ro 4 (P.map RC.enc)] 24 :: h)) := by
  have h1 := fun h => rhas14_c P x y h hP
  have h2 := fun h => rhas14_c Q x y h hQ
  generalize hasF P x y = u1 at *
  generalize hasF Q x y = u2 at *
  refine ACalls.intro Try.func24 rfl Try.ntmps24 Try.results24 (Nat.le_of_ble_eq_true rfl) ?_
  (repeat' (first | (refine iS ?_; refine iMu ?_; refine S.mapU ?_) | refine svz ⟨fun b hq => ?_⟩ | refine sv1 ?_ | refine svs ⟨?_⟩ | refine svu ⟨fun u => ?_⟩ | (refine svg (fun hg => ?_) (fun hg => ?_) <;> try (exfalso; first | omega | contradiction)) | (refine svc (fun hc => ?_) (fun hc => ?_) <;> try (exfalso; first | omega | contradiction)) | refine sv2 ?_ | refine svh (fun hb => ?_) (fun hb => ?_) | refine svb (fun b => ?_) | refine sva ?_ | refine sv3 ?_))
  refine S.call ?_; refine (h1 _).mono ?_; rintro r h' ⟨rfl, hh⟩; subst hh
  cases u1 with
  | true =>
    (repeat' (first | (refine iS ?_; refine iMu ?_; refine S.mapU ?_) | refine svz ⟨fun b hq => ?_⟩ | refine sv1 ?_ | refine svs ⟨?_⟩ | refine svu ⟨fun u => ?_⟩ | (refine svg (fun hg => ?_) (fun hg => ?_) <;> try (exfalso; first | omega | contradiction)) | (refine svc (fun hc => ?_) (fun hc => ?_) <;> try (exfalso; first | omega | contradiction)) | refine sv2 ?_ | refine svh (fun hb => ?_) (fun hb => ?_) | refine svb (fun b => ?_) | refine sva ?_ | refine sv3 ?_))
    exact fin_r (h' := _) ⟨rfl, rfl⟩
  | false =>
    (repeat' (first | (refine iS ?_; refine iMu ?_; refine S.mapU ?_) | refine svz ⟨fun b hq => ?_⟩ | refine sv1 ?_ | refine svs ⟨?_⟩ | refine svu ⟨fun u => ?_⟩ | (refine svg (fun hg => ?_) (fun hg => ?_) <;> try (exfalso; first | omega | contradiction)) | (refine svc (fun hc => ?_) (fun hc => ?_) <;> try (exfalso; first | omega | contradiction)) | refine sv2 ?_ | refine svh (fun hb => ?_) (fun hb => ?_) | refine svb (fun b => ?_) | refine sva ?_ | refine sv3 ?_))
    refine S.call ?_; refine (h2 _).mono ?_; rintro r h' ⟨rfl, hh⟩; subst hh
    (repeat' (first | (refine iS ?_; refine iMu ?_; refine S.mapU ?_) | refine svz ⟨fun b hq => ?_⟩ | refine sv1 ?_ | refine svs ⟨?_⟩ | refine svu ⟨fun u => ?_⟩ | (refine svg (fun hg => ?_) (fun hg => ?_) <;> try (exfalso; first | omega | contradiction)) | (refine svc (fun hc => ?_) (fun hc => ?_) <;> try (exfalso; first | omega | contradiction)) | refine sv2 ?_ | refine svh (fun hb => ?_) (fun hb => ?_) | refine svb (fun b => ?_) | refine sva ?_ | refine sv3 ?_))
    exact fin_r (h' := _) ⟨rfl, rfl⟩
set_option maxRecDepth 100000 in
theorem sets2_c : ACalls Try.prog 25 [.val (.int .i64 x), .val (.int .i64 y), .val (.pointer (some ⟨bp, 0, none⟩)), .val (.pointer (some ⟨bq, 0, none⟩))] (.box bq [.ro 4 (Q.map RC.enc)] 24 :: .box bp [.ro 4 (P.map RC.enc)] 24 :: h) (fun r h' => r = .val (.bool (hasF P x y && hasF Q x y)) ∧ h' = (.box bq [.ro 4 (Q.map RC.enc)] 24 :: .box bp [.ro 4 (P.map RC.enc)] 24 :: h)) := by
  have h1 := fun h => rhas14_c P x y h hP
  have h2 := fun h => rhas14_c Q x y h hQ
  generalize hasF P x y = u1 at *
  generalize hasF Q x y = u2 at *
  refine ACalls.intro Try.func25 rfl Try.ntmps25 Try.results25 (Nat.le_of_ble_eq_true rfl) ?_
  (repeat' (first | (refine iS ?_; refine iMu ?_; refine S.mapU ?_) | refine svz ⟨fun b hq => ?_⟩ | refine sv1 ?_ | refine svs ⟨?_⟩ | refine svu ⟨fun u => ?_⟩ | (refine svg (fun hg => ?_) (fun hg => ?_) <;> try (exfalso; first | omega | contradiction)) | (refine svc (fun hc => ?_) (fun hc => ?_) <;> try (exfalso; first | omega | contradiction)) | refine sv2 ?_ | refine svh (fun hb => ?_) (fun hb => ?_) | refine svb (fun b => ?_) | refine sva ?_ | refine sv3 ?_))
  refine S.call ?_; refine (h1 _).mono ?_; rintro r h' ⟨rfl, hh⟩; subst hh
  cases u1 with
  | false =>
    (repeat' (first | (refine iS ?_; refine iMu ?_; refine S.mapU ?_) | refine svz ⟨fun b hq => ?_⟩ | refine sv1 ?_ | refine svs ⟨?_⟩ | refine svu ⟨fun u => ?_⟩ | (refine svg (fun hg => ?_) (fun hg => ?_) <;> try (exfalso; first | omega | contradiction)) | (refine svc (fun hc => ?_) (fun hc => ?_) <;> try (exfalso; first | omega | contradiction)) | refine sv2 ?_ | refine svh (fun hb => ?_) (fun hb => ?_) | refine svb (fun b => ?_) | refine sva ?_ | refine sv3 ?_))
    exact fin_r (h' := _) ⟨rfl, rfl⟩
  | true =>
    (repeat' (first | (refine iS ?_; refine iMu ?_; refine S.mapU ?_) | refine svz ⟨fun b hq => ?_⟩ | refine sv1 ?_ | refine svs ⟨?_⟩ | refine svu ⟨fun u => ?_⟩ | (refine svg (fun hg => ?_) (fun hg => ?_) <;> try (exfalso; first | omega | contradiction)) | (refine svc (fun hc => ?_) (fun hc => ?_) <;> try (exfalso; first | omega | contradiction)) | refine sv2 ?_ | refine svh (fun hb => ?_) (fun hb => ?_) | refine svb (fun b => ?_) | refine sva ?_ | refine sv3 ?_))
    refine S.call ?_; refine (h2 _).mono ?_; rintro r h' ⟨rfl, hh⟩; subst hh
    (repeat' (first | (refine iS ?_; refine iMu ?_; refine S.mapU ?_) | refine svz ⟨fun b hq => ?_⟩ | refine sv1 ?_ | refine svs ⟨?_⟩ | refine svu ⟨fun u => ?_⟩ | (refine svg (fun hg => ?_) (fun hg => ?_) <;> try (exfalso; first | omega | contradiction)) | (refine svc (fun hc => ?_) (fun hc => ?_) <;> try (exfalso; first | omega | contradiction)) | refine sv2 ?_ | refine svh (fun hb => ?_) (fun hb => ?_) | refine svb (fun b => ?_) | refine sva ?_ | refine sv3 ?_))
    exact fin_r (h' := _) ⟨rfl, rfl⟩
set_option maxRecDepth 100000 in
theorem sets3_c : ACalls Try.prog 26 [.val (.int .i64 x), .val (.int .i64 y), .val (.pointer (some ⟨bp, 0, none⟩)), .val (.pointer (some ⟨bq, 0, none⟩))] (.box bq [.ro 4 (Q.map RC.enc)] 24 :: .box bp [.ro 4 (P.map RC.enc)] 24 :: h) (fun r h' => r = .val (.bool (hasF P x y && !hasF Q x y)) ∧ h' = (.box bq [.ro 4 (Q.map RC.enc)] 24 :: .box bp [.ro 4 (P.map RC.enc)] 24 :: h)) := by
  have h1 := fun h => rhas14_c P x y h hP
  have h2 := fun h => rhas14_c Q x y h hQ
  generalize hasF P x y = u1 at *
  generalize hasF Q x y = u2 at *
  refine ACalls.intro Try.func26 rfl Try.ntmps26 Try.results26 (Nat.le_of_ble_eq_true rfl) ?_
  (repeat' (first | (refine iS ?_; refine iMu ?_; refine S.mapU ?_) | refine svz ⟨fun b hq => ?_⟩ | refine sv1 ?_ | refine svs ⟨?_⟩ | refine svu ⟨fun u => ?_⟩ | (refine svg (fun hg => ?_) (fun hg => ?_) <;> try (exfalso; first | omega | contradiction)) | (refine svc (fun hc => ?_) (fun hc => ?_) <;> try (exfalso; first | omega | contradiction)) | refine sv2 ?_ | refine svh (fun hb => ?_) (fun hb => ?_) | refine svb (fun b => ?_) | refine sva ?_ | refine sv3 ?_))
  refine S.call ?_; refine (h1 _).mono ?_; rintro r h' ⟨rfl, hh⟩; subst hh
  cases u1 with
  | false =>
    (repeat' (first | (refine iS ?_; refine iMu ?_; refine S.mapU ?_) | refine svz ⟨fun b hq => ?_⟩ | refine sv1 ?_ | refine svs ⟨?_⟩ | refine svu ⟨fun u => ?_⟩ | (refine svg (fun hg => ?_) (fun hg => ?_) <;> try (exfalso; first | omega | contradiction)) | (refine svc (fun hc => ?_) (fun hc => ?_) <;> try (exfalso; first | omega | contradiction)) | refine sv2 ?_ | refine svh (fun hb => ?_) (fun hb => ?_) | refine svb (fun b => ?_) | refine sva ?_ | refine sv3 ?_))
    exact fin_r (h' := _) ⟨rfl, rfl⟩
  | true =>
    (repeat' (first | (refine iS ?_; refine iMu ?_; refine S.mapU ?_) | refine svz ⟨fun b hq => ?_⟩ | refine sv1 ?_ | refine svs ⟨?_⟩ | refine svu ⟨fun u => ?_⟩ | (refine svg (fun hg => ?_) (fun hg => ?_) <;> try (exfalso; first | omega | contradiction)) | (refine svc (fun hc => ?_) (fun hc => ?_) <;> try (exfalso; first | omega | contradiction)) | refine sv2 ?_ | refine svh (fun hb => ?_) (fun hb => ?_) | refine svb (fun b => ?_) | refine sva ?_ | refine sv3 ?_))
    refine S.call ?_; refine (h2 _).mono ?_; rintro r h' ⟨rfl, hh⟩; subst hh
    (repeat' (first | (refine iS ?_; refine iMu ?_; refine S.mapU ?_) | refine svz ⟨fun b hq => ?_⟩ | refine sv1 ?_ | refine svs ⟨?_⟩ | refine svu ⟨fun u => ?_⟩ | (refine svg (fun hg => ?_) (fun hg => ?_) <;> try (exfalso; first | omega | contradiction)) | (refine svc (fun hc => ?_) (fun hc => ?_) <;> try (exfalso; first | omega | contradiction)) | refine sv2 ?_ | refine svh (fun hb => ?_) (fun hb => ?_) | refine svb (fun b => ?_) | refine sva ?_ | refine sv3 ?_))
    exact fin_r (h' := _) ⟨rfl, rfl⟩
set_option maxRecDepth 100000 in
theorem sets4_c : ACalls Try.prog 27 [.val (.int .i64 x), .val (.int .i64 y), .val (.pointer (some ⟨bp, 0, none⟩)), .val (.pointer (some ⟨bq, 0, none⟩))] (.box bq [.ro 4 (Q.map RC.enc)] 24 :: .box bp [.ro 4 (P.map RC.enc)] 24 :: h) (fun r h' => r = .val (.bool (hasF P x y != hasF Q x y)) ∧ h' = (.box bq [.ro 4 (Q.map RC.enc)] 24 :: .box bp [.ro 4 (P.map RC.enc)] 24 :: h)) := by
  have h1 := fun h => rhas14_c P x y h hP
  have h2 := fun h => rhas14_c Q x y h hQ
  generalize hasF P x y = u1 at *
  generalize hasF Q x y = u2 at *
  refine ACalls.intro Try.func27 rfl Try.ntmps27 Try.results27 (Nat.le_of_ble_eq_true rfl) ?_
  (repeat' (first | (refine iS ?_; refine iMu ?_; refine S.mapU ?_) | refine svz ⟨fun b hq => ?_⟩ | refine sv1 ?_ | refine svs ⟨?_⟩ | refine svu ⟨fun u => ?_⟩ | (refine svg (fun hg => ?_) (fun hg => ?_) <;> try (exfalso; first | omega | contradiction)) | (refine svc (fun hc => ?_) (fun hc => ?_) <;> try (exfalso; first | omega | contradiction)) | refine sv2 ?_ | refine svh (fun hb => ?_) (fun hb => ?_) | refine svb (fun b => ?_) | refine sva ?_ | refine sv3 ?_))
  refine R2.C (h1 _) ?_
  (repeat' (first | (refine iS ?_; refine iMu ?_; refine S.mapU ?_) | refine svz ⟨fun b hq => ?_⟩ | refine sv1 ?_ | refine svs ⟨?_⟩ | refine svu ⟨fun u => ?_⟩ | (refine svg (fun hg => ?_) (fun hg => ?_) <;> try (exfalso; first | omega | contradiction)) | (refine svc (fun hc => ?_) (fun hc => ?_) <;> try (exfalso; first | omega | contradiction)) | refine sv2 ?_ | refine svh (fun hb => ?_) (fun hb => ?_) | refine svb (fun b => ?_) | refine sva ?_ | refine sv3 ?_))
  refine R2.C (h2 _) ?_
  cases u1 <;> cases u2 <;> ((repeat' (first | (refine iS ?_; refine iMu ?_; refine S.mapU ?_) | refine svz ⟨fun b hq => ?_⟩ | refine sv1 ?_ | refine svs ⟨?_⟩ | refine svu ⟨fun u => ?_⟩ | (refine svg (fun hg => ?_) (fun hg => ?_) <;> try (exfalso; first | omega | contradiction)) | (refine svc (fun hc => ?_) (fun hc => ?_) <;> try (exfalso; first | omega | contradiction)) | refine sv2 ?_ | refine svh (fun hb => ?_) (fun hb => ?_) | refine svb (fun b => ?_) | refine sva ?_ | refine sv3 ?_)); exact fin_r (h' := _) ⟨rfl, rfl⟩)
end
set_option maxRecDepth 100000 in
theorem within1_c (P : List RC) (c : RC) (x y : Int) (bp bq : Nat) (h : Heap) (hP : ∀ r ∈ P, r.ok) (hc : c.ok) : ACalls Try.prog 28 [.val (.int .i64 x), .val (.int .i64 y), .val (.pointer (some ⟨bp, 0, none⟩)), .val (.pointer (some ⟨bq, 0, none⟩))] (.box bp [.ro 4 (P.map RC.enc)] 24 :: .box bq [.val (.int .i64 c.x), .val (.int .i64 c.y), .val (.int .i64 c.w), .val (.int .i64 c.h)] 36 :: h)
    (fun r h' => r = .val (.bool (hasF P x y && hasF [c] x y)) ∧ h' = (.box bp [.ro 4 (P.map RC.enc)] 24 :: .box bq [.val (.int .i64 c.x), .val (.int .i64 c.y), .val (.int .i64 c.w), .val (.int .i64 c.h)] 36 :: h)) := by
  have h1 := fun h => rhas14_c P x y h hP
  have h2 := fun h => rhas14_c [c] x y h (by simpa using hc)
  generalize hasF P x y = u1 at *
  generalize hasF [c] x y = u2 at *
  refine ACalls.intro Try.func28 rfl Try.ntmps28 Try.results28 (Nat.le_of_ble_eq_true rfl) ?_
  (repeat' (first | (refine iS ?_; refine iN ?_; first | refine S.build1r ?_ | refine S.build2r ?_ | refine S.build3r ?_) | (refine iR2 ?_; refine r2b ?_; refine R2.one ?_) | (refine iS ?_; refine iMu ?_; refine S.mapU ?_) | refine svz ⟨fun b hq => ?_⟩ | refine sv1 ?_ | refine svs ⟨?_⟩ | refine svu ⟨fun u => ?_⟩ | (refine svg (fun hg => ?_) (fun hg => ?_) <;> try (exfalso; first | omega | contradiction)) | (refine svc (fun hc => ?_) (fun hc => ?_) <;> try (exfalso; first | omega | contradiction)) | refine sv2 ?_ | refine svh (fun hb => ?_) (fun hb => ?_) | refine svb (fun b => ?_) | refine sva ?_ | refine sv3 ?_))
  refine S.call ?_; refine (h1 _).mono ?_; rintro r h' ⟨rfl, hh⟩; subst hh
  cases u1 with
  | false =>
    (repeat' (first | (refine iS ?_; refine iN ?_; first | refine S.build1r ?_ | refine S.build2r ?_ | refine S.build3r ?_) | (refine iR2 ?_; refine r2b ?_; refine R2.one ?_) | (refine iS ?_; refine iMu ?_; refine S.mapU ?_) | refine svz ⟨fun b hq => ?_⟩ | refine sv1 ?_ | refine svs ⟨?_⟩ | refine svu ⟨fun u => ?_⟩ | (refine svg (fun hg => ?_) (fun hg => ?_) <;> try (exfalso; first | omega | contradiction)) | (refine svc (fun hc => ?_) (fun hc => ?_) <;> try (exfalso; first | omega | contradiction)) | refine sv2 ?_ | refine svh (fun hb => ?_) (fun hb => ?_) | refine svb (fun b => ?_) | refine sva ?_ | refine sv3 ?_))
    exact fin_r (h' := _) ⟨rfl, rfl⟩
  | true =>
    (repeat' (first | (refine iS ?_; refine iN ?_; first | refine S.build1r ?_ | refine S.build2r ?_ | refine S.build3r ?_) | (refine iR2 ?_; refine r2b ?_; refine R2.one ?_) | (refine iS ?_; refine iMu ?_; refine S.mapU ?_) | refine svz ⟨fun b hq => ?_⟩ | refine sv1 ?_ | refine svs ⟨?_⟩ | refine svu ⟨fun u => ?_⟩ | (refine svg (fun hg => ?_) (fun hg => ?_) <;> try (exfalso; first | omega | contradiction)) | (refine svc (fun hc => ?_) (fun hc => ?_) <;> try (exfalso; first | omega | contradiction)) | refine sv2 ?_ | refine svh (fun hb => ?_) (fun hb => ?_) | refine svb (fun b => ?_) | refine sva ?_ | refine sv3 ?_))
    refine S.call ?_; refine (h2 _).mono ?_; rintro r h' ⟨rfl, hh⟩; subst hh
    (repeat' (first | (refine iS ?_; refine iN ?_; first | refine S.build1r ?_ | refine S.build2r ?_ | refine S.build3r ?_) | (refine iR2 ?_; refine r2b ?_; refine R2.one ?_) | (refine iS ?_; refine iMu ?_; refine S.mapU ?_) | refine svz ⟨fun b hq => ?_⟩ | refine sv1 ?_ | refine svs ⟨?_⟩ | refine svu ⟨fun u => ?_⟩ | (refine svg (fun hg => ?_) (fun hg => ?_) <;> try (exfalso; first | omega | contradiction)) | (refine svc (fun hc => ?_) (fun hc => ?_) <;> try (exfalso; first | omega | contradiction)) | refine sv2 ?_ | refine svh (fun hb => ?_) (fun hb => ?_) | refine svb (fun b => ?_) | refine sva ?_ | refine sv3 ?_))
    exact fin_r (h' := _) ⟨rfl, rfl⟩
def aw1 : List RC := [⟨0, 0, 3, 3⟩]
def aw2 : List RC := [⟨1, 1, 3, 3⟩]
theorem aw_bx1 : Bx 0 4 (ofF aw1) := .of fun r hr _ => by unfold aw1 at hr; simp only [List.mem_singleton] at hr; subst hr; simp
theorem aw_bx2 : Bx 0 4 (ofF aw2) := .of fun r hr _ => by unfold aw2 at hr; simp only [List.mem_singleton] at hr; subst hr; simp
theorem aw_area {X : List RC} (p : Bool → Bool → Bool) (n : Int) (h : Bx 0 4 X) (hp : ∀ x y, hasR X x y = p (hasF aw1 x y) (hasF aw2 x y)) (hd : grid 0 4 (fun x y => p (hasF aw1 x y) (hasF aw2 x y)) = n) : areaF X = n := by
  rw [h.area, ← hd]; exact grid_congr hp
set_option maxRecDepth 100000 in
theorem awake_c (h : Heap) : ACalls Try.prog 10 [] h (fun r h' => r = .val (.bool true) ∧ h' = h) := by
  have ok1 : ∀ r ∈ aw1, r.ok := fun r hr => by unfold aw1 at hr; simp only [List.mem_singleton] at hr; subst hr; constructor <;> (unfold I64; simp)
  have ok2 : ∀ r ∈ aw2, r.ok := fun r hr => by unfold aw2 at hr; simp only [List.mem_singleton] at hr; subst hr; constructor <;> (unfold I64; simp)
  have o1 := fun h => of_c aw1 h (by decide) ok1
  have o2 := fun h => of_c aw2 h (by decide) ok2
  have b1 := aw_bx1
  have b2 := aw_bx2
  have e1 : ∀ x y, hasR (ofF aw1) x y = hasF aw1 x y := has_ofF aw1
  have e2 : ∀ x y, hasR (ofF aw2) x y = hasF aw2 x y := has_ofF aw2
  generalize ofF aw1 = A at *
  generalize ofF aw2 = B at *
  have jo := b1.jok b2 (by omega)
  have bu := b1.union b2
  have bm : Bx 0 4 (joinJ (fun p q => p && q) (A) (B)) := b1.join rfl b2
  have bn : Bx 0 4 (joinJ (fun p q => p && !q) (A) (B)) := b1.join rfl b2
  have bx : Bx 0 4 (joinJ (fun p q => p != q) (A) (B)) := b1.join rfl b2
  have au : areaF (ofF ((A) ++ (B))) = 14 := aw_area (fun p q => p || q) 14 bu (fun x y => by rw [has_union b1.can b2.can, e1, e2]) (by decide +kernel)
  have am : areaF (joinJ (fun p q => p && q) (A) (B)) = 4 := aw_area (fun p q => p && q) 4 bm (fun x y => by rw [has_join b1.can b2.can rfl, e1, e2]) (by decide +kernel)
  have an : areaF (joinJ (fun p q => p && !q) (A) (B)) = 5 := aw_area (fun p q => p && !q) 5 bn (fun x y => by rw [has_join b1.can b2.can rfl, e1, e2]) (by decide +kernel)
  have ax : areaF (joinJ (fun p q => p != q) (A) (B)) = 10 := aw_area (fun p q => p != q) 10 bx (fun x y => by rw [has_join b1.can b2.can rfl, e1, e2]) (by decide +kernel)
  have lu := bu.len; have lm := bm.len; have ln := bn.len; have lx := bx.len
  have cu := fun h => barea_c (ofF ((A) ++ (B))) h (by omega) (fun r hr => (bu.can.cnt r hr).sm)
  have cm := fun h => barea_c (joinJ (fun p q => p && q) (A) (B)) h (by omega) (fun r hr => (bm.can.cnt r hr).sm)
  have cn := fun h => barea_c (joinJ (fun p q => p && !q) (A) (B)) h (by omega) (fun r hr => (bn.can.cnt r hr).sm)
  have cx := fun h => barea_c (joinJ (fun p q => p != q) (A) (B)) h (by omega) (fun r hr => (bx.can.cnt r hr).sm)
  rw [au] at cu
  rw [am] at cm
  rw [an] at cn
  rw [ax] at cx
  have ju := fun h => union_c A B h jo.a jo.b jo.la jo.lb
  have jm := fun h => meet_c A B h jo
  have jn := fun h => minus_c A B h jo
  have jx := fun h => xor_c A B h jo
  generalize (ofF ((A) ++ (B))) = U at *
  generalize (joinJ (fun p q => p && q) (A) (B)) = M at *
  generalize (joinJ (fun p q => p && !q) (A) (B)) = D at *
  generalize (joinJ (fun p q => p != q) (A) (B)) = X at *
  unfold regE at *
  refine ACalls.intro Try.func10 rfl Try.ntmps10 Try.results10 (Nat.le_of_ble_eq_true rfl) ?_
  (repeat' (first | (refine iS ?_; refine iN ?_; first | refine S.build1r ?_ | refine S.build2r ?_ | refine S.build3r ?_) | (refine iR2 ?_; refine r2b ?_; refine R2.one ?_) | (refine iS ?_; refine iMu ?_; refine S.mapU ?_) | refine svz ⟨fun b hq => ?_⟩ | refine sv1 ?_ | refine svs ⟨?_⟩ | refine svu ⟨fun u => ?_⟩ | (refine svg (fun hg => ?_) (fun hg => ?_) <;> try (exfalso; first | omega | contradiction)) | (refine svc (fun hc => ?_) (fun hc => ?_) <;> try (exfalso; first | omega | contradiction)) | refine sv2 ?_ | refine svh (fun hb => ?_) (fun hb => ?_) | refine svb (fun b => ?_) | refine sva ?_ | refine sv3 ?_))
  refine S.call ?_; refine (o1 _).mono ?_; rintro r h' ⟨rfl, hh⟩; subst hh
  (repeat' (first | (refine iS ?_; refine iN ?_; first | refine S.build1r ?_ | refine S.build2r ?_ | refine S.build3r ?_) | (refine iR2 ?_; refine r2b ?_; refine R2.one ?_) | (refine iS ?_; refine iMu ?_; refine S.mapU ?_) | refine svz ⟨fun b hq => ?_⟩ | refine sv1 ?_ | refine svs ⟨?_⟩ | refine svu ⟨fun u => ?_⟩ | (refine svg (fun hg => ?_) (fun hg => ?_) <;> try (exfalso; first | omega | contradiction)) | (refine svc (fun hc => ?_) (fun hc => ?_) <;> try (exfalso; first | omega | contradiction)) | refine sv2 ?_ | refine svh (fun hb => ?_) (fun hb => ?_) | refine svb (fun b => ?_) | refine sva ?_ | refine sv3 ?_))
  refine S.call ?_; refine (o2 _).mono ?_; rintro r h' ⟨rfl, hh⟩; subst hh
  (repeat' (first | (refine iS ?_; refine iN ?_; first | refine S.build1r ?_ | refine S.build2r ?_ | refine S.build3r ?_) | (refine iR2 ?_; refine r2b ?_; refine R2.one ?_) | (refine iS ?_; refine iMu ?_; refine S.mapU ?_) | refine svz ⟨fun b hq => ?_⟩ | refine sv1 ?_ | refine svs ⟨?_⟩ | refine svu ⟨fun u => ?_⟩ | (refine svg (fun hg => ?_) (fun hg => ?_) <;> try (exfalso; first | omega | contradiction)) | (refine svc (fun hc => ?_) (fun hc => ?_) <;> try (exfalso; first | omega | contradiction)) | refine sv2 ?_ | refine svh (fun hb => ?_) (fun hb => ?_) | refine svb (fun b => ?_) | refine sva ?_ | refine sv3 ?_))
  refine S.call ?_; refine (ju _).mono ?_; rintro r h' ⟨rfl, hh⟩; subst hh
  (repeat' (first | (refine iS ?_; refine iN ?_; first | refine S.build1r ?_ | refine S.build2r ?_ | refine S.build3r ?_) | (refine iR2 ?_; refine r2b ?_; refine R2.one ?_) | (refine iS ?_; refine iMu ?_; refine S.mapU ?_) | refine svz ⟨fun b hq => ?_⟩ | refine sv1 ?_ | refine svs ⟨?_⟩ | refine svu ⟨fun u => ?_⟩ | (refine svg (fun hg => ?_) (fun hg => ?_) <;> try (exfalso; first | omega | contradiction)) | (refine svc (fun hc => ?_) (fun hc => ?_) <;> try (exfalso; first | omega | contradiction)) | refine sv2 ?_ | refine svh (fun hb => ?_) (fun hb => ?_) | refine svb (fun b => ?_) | refine sva ?_ | refine sv3 ?_))
  refine S.call ?_; refine (cu _).mono ?_; rintro r h' ⟨rfl, hh⟩; subst hh
  (repeat' (first | (refine iS ?_; refine iN ?_; first | refine S.build1r ?_ | refine S.build2r ?_ | refine S.build3r ?_) | (refine iR2 ?_; refine r2b ?_; refine R2.one ?_) | (refine iS ?_; refine iMu ?_; refine S.mapU ?_) | refine svz ⟨fun b hq => ?_⟩ | refine sv1 ?_ | refine svs ⟨?_⟩ | refine svu ⟨fun u => ?_⟩ | (refine svg (fun hg => ?_) (fun hg => ?_) <;> try (exfalso; first | omega | contradiction)) | (refine svc (fun hc => ?_) (fun hc => ?_) <;> try (exfalso; first | omega | contradiction)) | refine sv2 ?_ | refine svh (fun hb => ?_) (fun hb => ?_) | refine svb (fun b => ?_) | refine sva ?_ | refine sv3 ?_))
  refine S.call ?_; refine (jm _).mono ?_; rintro r h' ⟨rfl, hh⟩; subst hh
  (repeat' (first | (refine iS ?_; refine iN ?_; first | refine S.build1r ?_ | refine S.build2r ?_ | refine S.build3r ?_) | (refine iR2 ?_; refine r2b ?_; refine R2.one ?_) | (refine iS ?_; refine iMu ?_; refine S.mapU ?_) | refine svz ⟨fun b hq => ?_⟩ | refine sv1 ?_ | refine svs ⟨?_⟩ | refine svu ⟨fun u => ?_⟩ | (refine svg (fun hg => ?_) (fun hg => ?_) <;> try (exfalso; first | omega | contradiction)) | (refine svc (fun hc => ?_) (fun hc => ?_) <;> try (exfalso; first | omega | contradiction)) | refine sv2 ?_ | refine svh (fun hb => ?_) (fun hb => ?_) | refine svb (fun b => ?_) | refine sva ?_ | refine sv3 ?_))
  refine S.call ?_; refine (cm _).mono ?_; rintro r h' ⟨rfl, hh⟩; subst hh
  (repeat' (first | (refine iS ?_; refine iN ?_; first | refine S.build1r ?_ | refine S.build2r ?_ | refine S.build3r ?_) | (refine iR2 ?_; refine r2b ?_; refine R2.one ?_) | (refine iS ?_; refine iMu ?_; refine S.mapU ?_) | refine svz ⟨fun b hq => ?_⟩ | refine sv1 ?_ | refine svs ⟨?_⟩ | refine svu ⟨fun u => ?_⟩ | (refine svg (fun hg => ?_) (fun hg => ?_) <;> try (exfalso; first | omega | contradiction)) | (refine svc (fun hc => ?_) (fun hc => ?_) <;> try (exfalso; first | omega | contradiction)) | refine sv2 ?_ | refine svh (fun hb => ?_) (fun hb => ?_) | refine svb (fun b => ?_) | refine sva ?_ | refine sv3 ?_))
  refine S.call ?_; refine (jn _).mono ?_; rintro r h' ⟨rfl, hh⟩; subst hh
  (repeat' (first | (refine iS ?_; refine iN ?_; first | refine S.build1r ?_ | refine S.build2r ?_ | refine S.build3r ?_) | (refine iR2 ?_; refine r2b ?_; refine R2.one ?_) | (refine iS ?_; refine iMu ?_; refine S.mapU ?_) | refine svz ⟨fun b hq => ?_⟩ | refine sv1 ?_ | refine svs ⟨?_⟩ | refine svu ⟨fun u => ?_⟩ | (refine svg (fun hg => ?_) (fun hg => ?_) <;> try (exfalso; first | omega | contradiction)) | (refine svc (fun hc => ?_) (fun hc => ?_) <;> try (exfalso; first | omega | contradiction)) | refine sv2 ?_ | refine svh (fun hb => ?_) (fun hb => ?_) | refine svb (fun b => ?_) | refine sva ?_ | refine sv3 ?_))
  refine S.call ?_; refine (cn _).mono ?_; rintro r h' ⟨rfl, hh⟩; subst hh
  (repeat' (first | (refine iS ?_; refine iN ?_; first | refine S.build1r ?_ | refine S.build2r ?_ | refine S.build3r ?_) | (refine iR2 ?_; refine r2b ?_; refine R2.one ?_) | (refine iS ?_; refine iMu ?_; refine S.mapU ?_) | refine svz ⟨fun b hq => ?_⟩ | refine sv1 ?_ | refine svs ⟨?_⟩ | refine svu ⟨fun u => ?_⟩ | (refine svg (fun hg => ?_) (fun hg => ?_) <;> try (exfalso; first | omega | contradiction)) | (refine svc (fun hc => ?_) (fun hc => ?_) <;> try (exfalso; first | omega | contradiction)) | refine sv2 ?_ | refine svh (fun hb => ?_) (fun hb => ?_) | refine svb (fun b => ?_) | refine sva ?_ | refine sv3 ?_))
  refine S.call ?_; refine (jx _).mono ?_; rintro r h' ⟨rfl, hh⟩; subst hh
  (repeat' (first | (refine iS ?_; refine iN ?_; first | refine S.build1r ?_ | refine S.build2r ?_ | refine S.build3r ?_) | (refine iR2 ?_; refine r2b ?_; refine R2.one ?_) | (refine iS ?_; refine iMu ?_; refine S.mapU ?_) | refine svz ⟨fun b hq => ?_⟩ | refine sv1 ?_ | refine svs ⟨?_⟩ | refine svu ⟨fun u => ?_⟩ | (refine svg (fun hg => ?_) (fun hg => ?_) <;> try (exfalso; first | omega | contradiction)) | (refine svc (fun hc => ?_) (fun hc => ?_) <;> try (exfalso; first | omega | contradiction)) | refine sv2 ?_ | refine svh (fun hb => ?_) (fun hb => ?_) | refine svb (fun b => ?_) | refine sva ?_ | refine sv3 ?_))
  refine S.call ?_; refine (cx _).mono ?_; rintro r h' ⟨rfl, hh⟩; subst hh
  (repeat' (first | (refine iS ?_; refine iN ?_; first | refine S.build1r ?_ | refine S.build2r ?_ | refine S.build3r ?_) | (refine iR2 ?_; refine r2b ?_; refine R2.one ?_) | (refine iS ?_; refine iMu ?_; refine S.mapU ?_) | refine svz ⟨fun b hq => ?_⟩ | refine sv1 ?_ | refine svs ⟨?_⟩ | refine svu ⟨fun u => ?_⟩ | (refine svg (fun hg => ?_) (fun hg => ?_) <;> try (exfalso; first | omega | contradiction)) | (refine svc (fun hc => ?_) (fun hc => ?_) <;> try (exfalso; first | omega | contradiction)) | refine sv2 ?_ | refine svh (fun hb => ?_) (fun hb => ?_) | refine svb (fun b => ?_) | refine sva ?_ | refine sv3 ?_))
  exact fin_r (h' := _) ⟨rfl, rfl⟩
end Go.Proofs.Ytnedgbhbbpjllaa
