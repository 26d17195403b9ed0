/- RegionSelf. No condition. -/
import Derived.Test.YtnedgbhbbpjllaaC10
namespace Go.Proofs.Ytnedgbhbbpjllaa
open Go Go.VM
attribute [local irreducible] PurV Pur Step RL W D ACalls Then InBlock Fini
set_option linter.unusedVariables false
set_option linter.unusedSimpArgs false
set_option maxHeartbeats 20000000
set_option maxRecDepth 100000 in
theorem self_c (l : List Sq) (c : RC) (okl : ∀ q ∈ l, q.ok) (okc : c.ok) : ACalls Try.prog 5 [.ro 4 (l.map Sq.enc), c.enc] [] (fun r h' => r = .val (.bool true)) := by
  show ACalls Try.prog 5 [_, .agg [.val (.int .i64 c.x), .val (.int .i64 c.y), .val (.int .i64 c.w), .val (.int .i64 c.h)]] [] _
  refine ACalls.intro Try.func5 rfl Try.ntmps5 Try.results5 (Nat.le_of_ble_eq_true rfl) ?_
  refine W.len 0 rfl (fun hll => ?_); simp only [ints, splice, List.length_map, List.length_append, List.length_cons, List.length_nil, List.length_take, List.length_drop, List.length_set, List.length_replicate] at hll
  by_cases hl : 10 < l.length
  · (repeat' (first | (refine iS ?_; refine iMu ?_; refine S.mapU ?_) | refine svz ⟨fun b hq => ?_⟩ | refine sv1 ?_ | refine svs ⟨?_⟩ | refine svu ⟨fun u => ?_⟩ | (refine svg (fun hg => ?_) (fun hg => ?_) <;> try (exfalso; first | omega | contradiction)) | (refine svc (fun hc => ?_) (fun hc => ?_) <;> try (exfalso; first | omega | contradiction)) | refine sv2 ?_ | refine svh (fun hb => ?_) (fun hb => ?_) | refine svb (fun b => ?_) | refine sva ?_ | refine sv3 ?_))
    refine S.call ?_; refine (awake_c _).mono ?_; rintro r h' ⟨rfl, hh⟩; subst hh
    (repeat' (first | (refine iS ?_; refine iMu ?_; refine S.mapU ?_) | refine svz ⟨fun b hq => ?_⟩ | refine sv1 ?_ | refine svs ⟨?_⟩ | refine svu ⟨fun u => ?_⟩ | (refine svg (fun hg => ?_) (fun hg => ?_) <;> try (exfalso; first | omega | contradiction)) | (refine svc (fun hc => ?_) (fun hc => ?_) <;> try (exfalso; first | omega | contradiction)) | refine sv2 ?_ | refine svh (fun hb => ?_) (fun hb => ?_) | refine svb (fun b => ?_) | refine sva ?_ | refine sv3 ?_))
    exact fin_r (h' := _) rfl
  have r1 := fun h => rectsS_c l h (by omega) okl
  have bA := sm_bx l
  have o1 := fun h => of_c (l.map Sq.rc) h (by rw [List.length_map]; omega) sm_all
  generalize ofF (l.map Sq.rc) = A at *
  have cA := bA.can
  have cB := can_of [c]
  have jo := bA.jok1 cB (of_one c) (by omega)
  have jw := fun h => within_c A c h okc jo
  generalize ofF [c] = B at *
  have b0 : Bx 0 28 [] := Bx.nil 0 28
  have bV : Bx 0 28 (joinJ (fun p q => p && q) (A) (B)) := bA.left (fun b => rfl) cB
  have cV := bV.can
  have cN := can_nil
  have hN : ∀ x y, hasR [] x y = false := fun _ _ => rfl
  have b1 := bA.union bA
  have b2 : Bx 0 28 (joinJ (fun p q => p && q) (A) (A)) := bA.join rfl bA
  have b3 : Bx 0 28 (joinJ (fun p q => p && !q) (A) (A)) := bA.join rfl bA
  have b4 : Bx 0 28 (joinJ (fun p q => p != q) (A) (A)) := bA.join rfl bA
  have b5 : Bx 0 28 (joinJ (fun p q => p && !q) (A) ((joinJ (fun p q => p && q) (A) (B)))) := bA.join rfl bV
  have e1 : (ofF ((A) ++ (A))) = A := (Can.eq (by simp only [can_of, can_join, can_nil, cA, cB, cV]) (by simp only [can_of, can_join, can_nil, cA, cB, cV]) (fun x y => by simp only [has_union, has_join, can_of, can_join, can_nil, cA, cB, cV, cN, hN, Bool.and_self, Bool.and_false, Bool.false_and, bne_self_eq_false]; try (cases hasR A x y <;> cases hasR B x y <;> rfl)))
  have e2 : (joinJ (fun p q => p && q) (A) (A)) = A := (Can.eq (by simp only [can_of, can_join, can_nil, cA, cB, cV]) (by simp only [can_of, can_join, can_nil, cA, cB, cV]) (fun x y => by simp only [has_union, has_join, can_of, can_join, can_nil, cA, cB, cV, cN, hN, Bool.and_self, Bool.and_false, Bool.false_and, bne_self_eq_false]; try (cases hasR A x y <;> cases hasR B x y <;> rfl)))
  have e3 : (joinJ (fun p q => p && !q) (A) (A)) = [] := ((can_join _ _ _).nil_iff.2 fun x y => by simp only [has_union, has_join, can_of, can_join, can_nil, cA, cB, cV, cN, hN, Bool.and_self, Bool.and_false, Bool.false_and, bne_self_eq_false]; try (cases hasR A x y <;> cases hasR B x y <;> rfl))
  have e4 : (joinJ (fun p q => p != q) (A) (A)) = [] := ((can_join _ _ _).nil_iff.2 fun x y => by simp only [has_union, has_join, can_of, can_join, can_nil, cA, cB, cV, cN, hN, Bool.and_self, Bool.and_false, Bool.false_and, bne_self_eq_false]; try (cases hasR A x y <;> cases hasR B x y <;> rfl))
  have e5 : (ofF ((A) ++ ([]))) = A := (Can.eq (by simp only [can_of, can_join, can_nil, cA, cB, cV]) (by simp only [can_of, can_join, can_nil, cA, cB, cV]) (fun x y => by simp only [has_union, has_join, can_of, can_join, can_nil, cA, cB, cV, cN, hN, Bool.and_self, Bool.and_false, Bool.false_and, bne_self_eq_false]; try (cases hasR A x y <;> cases hasR B x y <;> rfl)))
  have e6 : (joinJ (fun p q => p && q) (A) ([])) = [] := ((can_join _ _ _).nil_iff.2 fun x y => by simp only [has_union, has_join, can_of, can_join, can_nil, cA, cB, cV, cN, hN, Bool.and_self, Bool.and_false, Bool.false_and, bne_self_eq_false]; try (cases hasR A x y <;> cases hasR B x y <;> rfl))
  have e7 : (joinJ (fun p q => p && !q) (A) ([])) = A := (Can.eq (by simp only [can_of, can_join, can_nil, cA, cB, cV]) (by simp only [can_of, can_join, can_nil, cA, cB, cV]) (fun x y => by simp only [has_union, has_join, can_of, can_join, can_nil, cA, cB, cV, cN, hN, Bool.and_self, Bool.and_false, Bool.false_and, bne_self_eq_false]; try (cases hasR A x y <;> cases hasR B x y <;> rfl)))
  have e8 : (joinJ (fun p q => p != q) ([]) (A)) = A := (Can.eq (by simp only [can_of, can_join, can_nil, cA, cB, cV]) (by simp only [can_of, can_join, can_nil, cA, cB, cV]) (fun x y => by simp only [has_union, has_join, can_of, can_join, can_nil, cA, cB, cV, cN, hN, Bool.and_self, Bool.and_false, Bool.false_and, bne_self_eq_false]; try (cases hasR A x y <;> cases hasR B x y <;> rfl)))
  have e9 : (joinJ (fun p q => p && !q) ([]) (A)) = [] := ((can_join _ _ _).nil_iff.2 fun x y => by simp only [has_union, has_join, can_of, can_join, can_nil, cA, cB, cV, cN, hN, Bool.and_self, Bool.and_false, Bool.false_and, bne_self_eq_false]; try (cases hasR A x y <;> cases hasR B x y <;> rfl))
  have e10 : (ofF ((A) ++ ((joinJ (fun p q => p && q) (A) (B))))) = A := (Can.eq (by simp only [can_of, can_join, can_nil, cA, cB, cV]) (by simp only [can_of, can_join, can_nil, cA, cB, cV]) (fun x y => by simp only [has_union, has_join, can_of, can_join, can_nil, cA, cB, cV, cN, hN, Bool.and_self, Bool.and_false, Bool.false_and, bne_self_eq_false]; try (cases hasR A x y <;> cases hasR B x y <;> rfl)))
  have e11 : (joinJ (fun p q => p && q) ((joinJ (fun p q => p && q) (A) (B))) (A)) = (joinJ (fun p q => p && q) (A) (B)) := (Can.eq (by simp only [can_of, can_join, can_nil, cA, cB, cV]) (by simp only [can_of, can_join, can_nil, cA, cB, cV]) (fun x y => by simp only [has_union, has_join, can_of, can_join, can_nil, cA, cB, cV, cN, hN, Bool.and_self, Bool.and_false, Bool.false_and, bne_self_eq_false]; try (cases hasR A x y <;> cases hasR B x y <;> rfl)))
  have e12 : (joinJ (fun p q => p && !q) ((joinJ (fun p q => p && q) (A) (B))) (A)) = [] := ((can_join _ _ _).nil_iff.2 fun x y => by simp only [has_union, has_join, can_of, can_join, can_nil, cA, cB, cV, cN, hN, Bool.and_self, Bool.and_false, Bool.false_and, bne_self_eq_false]; try (cases hasR A x y <;> cases hasR B x y <;> rfl))
  have hax : areaF A = areaF (joinJ (fun p q => p && q) (A) (B)) + areaF (joinJ (fun p q => p && !q) (A) ((joinJ (fun p q => p && q) (A) (B)))) := by
    rw [bA.area, bV.area, b5.area]
    refine grid_or fun x y => ?_
    simp only [has_union, has_join, can_of, can_join, can_nil, cA, cB, cV, cN, hN, Bool.and_self, Bool.and_false, Bool.false_and, bne_self_eq_false]
    cases hasR A x y <;> cases hasR B x y <;> rfl
  have ji := fun h => inside_c A (joinJ (fun p q => p && q) (A) (B)) h (bA.jok bV (by omega))
  have hz : ((joinJ (fun p q => p && !q) (A) ((joinJ (fun p q => p && q) (A) (B))))).length = 0 ↔ areaF (joinJ (fun p q => p && q) (A) (B)) = areaF A := by
    have h1 := len_area b5.can.cnt
    constructor
    · intro h
      rw [List.length_eq_zero_iff] at h
      rw [hax, h]; simp [areaF]
    · intro h; omega
  rw [show decide (((joinJ (fun p q => p && !q) (A) ((joinJ (fun p q => p && q) (A) (B))))).length = 0) = decide (areaF (joinJ (fun p q => p && q) (A) (B)) = areaF A) from decide_eq_decide.2 hz] at ji
  have ar1 := fun h => area_b _ h bA
  have ar2 := fun h => area_b _ h bV
  have d1 := area_bd bA
  have d2 := area_bd bV
  generalize areaF A = n1 at *
  generalize areaF (joinJ (fun p q => p && q) (A) (B)) = n2 at *
  have ju := union_b
  have jm := meet_b
  have jn := minus_b
  have jx := xor_b
  have st := same_t
  have et := empty_t
  have it := inside_t
  generalize (joinJ (fun p q => p && q) (A) (B)) = V at *
  unfold regE at *
  (repeat' (first | (refine iS ?_; refine iMu ?_; refine S.mapU ?_) | refine svz ⟨fun b hq => ?_⟩ | refine sv1 ?_ | refine svs ⟨?_⟩ | refine svu ⟨fun u => ?_⟩ | (refine svg (fun hg => ?_) (fun hg => ?_) <;> try (exfalso; first | omega | contradiction)) | (refine svc (fun hc => ?_) (fun hc => ?_) <;> try (exfalso; first | omega | contradiction)) | refine sv2 ?_ | refine svh (fun hb => ?_) (fun hb => ?_) | refine svb (fun b => ?_) | refine sva ?_ | refine sv3 ?_))
  refine S.call ?_; refine (r1 _).mono ?_; rintro r h' ⟨rfl, hh⟩; subst hh
  (repeat' (first | (refine iS ?_; refine iMu ?_; refine S.mapU ?_) | refine svz ⟨fun b hq => ?_⟩ | refine sv1 ?_ | refine svs ⟨?_⟩ | refine svu ⟨fun u => ?_⟩ | (refine svg (fun hg => ?_) (fun hg => ?_) <;> try (exfalso; first | omega | contradiction)) | (refine svc (fun hc => ?_) (fun hc => ?_) <;> try (exfalso; first | omega | contradiction)) | refine sv2 ?_ | refine svh (fun hb => ?_) (fun hb => ?_) | refine svb (fun b => ?_) | refine sva ?_ | refine sv3 ?_))
  refine S.call ?_; refine (o1 _).mono ?_; rintro r h' ⟨rfl, hh⟩; subst hh
  (repeat' (first | (refine iS ?_; refine iMu ?_; refine S.mapU ?_) | refine svz ⟨fun b hq => ?_⟩ | refine sv1 ?_ | refine svs ⟨?_⟩ | refine svu ⟨fun u => ?_⟩ | (refine svg (fun hg => ?_) (fun hg => ?_) <;> try (exfalso; first | omega | contradiction)) | (refine svc (fun hc => ?_) (fun hc => ?_) <;> try (exfalso; first | omega | contradiction)) | refine sv2 ?_ | refine svh (fun hb => ?_) (fun hb => ?_) | refine svb (fun b => ?_) | refine sva ?_ | refine sv3 ?_))
  rename_i b8
  revert b; intro b6
  refine Step.le (s' := ⟨112, [(18, .agg [.val (.int .i64 c.x), .val (.int .i64 c.y), .val (.int .i64 c.w), .val (.int .i64 c.h)]), (17, .agg [.ro 4 (A.map RC.enc)]), (6, .val (.pointer (some ⟨b6, 0, none⟩))), (5, .val (.pointer (some ⟨b8, 0, none⟩)))], [.box b6 [.ro 4 []] 28, .box b8 [.ro 4 (A.map RC.enc)] 28]⟩) ⟨rfl, (by repeat (first | exact LeT.nil | refine LeT.cons rfl ?_ | refine LeT.consw rfl (by (repeat (first | exact Wk.refl _ | exact Wk.nilr _ | exact Wk.nilm | apply Wk.aggc | apply Wk.tupc | exact Wk.aggn | exact Wk.tupn)); first | done | fail) ?_)), (by repeat (first | exact LeH.refl _ | exact LeH.nil _ | refine LeH.cons (by (fail_if_success (apply tkG)); (repeat (first | exact Tk.here | apply Tk.there)); first | done | fail) ?_ | refine LeH.boxw (by (fail_if_success (apply tkG)); (repeat (first | exact Tk.here | apply Tk.there)); first | done | fail) (by (repeat (first | exact Wk.refl _ | exact Wk.nilr _ | exact Wk.nilm | apply Wk.aggc | apply Wk.tupc | exact Wk.aggn | exact Wk.tupn)); first | done | fail) ?_ | refine LeH.skip ?_))⟩ ?_
  refine S.call ?_; refine (jw _).mono ?_; rintro r h' ⟨rfl, hh⟩; subst hh
  (repeat' (first | (refine iS ?_; refine iMu ?_; refine S.mapU ?_) | refine svz ⟨fun b hq => ?_⟩ | refine sv1 ?_ | refine svs ⟨?_⟩ | refine svu ⟨fun u => ?_⟩ | (refine svg (fun hg => ?_) (fun hg => ?_) <;> try (exfalso; first | omega | contradiction)) | (refine svc (fun hc => ?_) (fun hc => ?_) <;> try (exfalso; first | omega | contradiction)) | refine sv2 ?_ | refine svh (fun hb => ?_) (fun hb => ?_) | refine svb (fun b => ?_) | refine sva ?_ | refine sv3 ?_))
  refine R2.C (ju _ _ _ ?_ ?_) ?_ <;> try assumption
  (repeat' (first | (refine iS ?_; refine iMu ?_; refine S.mapU ?_) | refine svz ⟨fun b hq => ?_⟩ | refine sv1 ?_ | refine svs ⟨?_⟩ | refine svu ⟨fun u => ?_⟩ | (refine svg (fun hg => ?_) (fun hg => ?_) <;> try (exfalso; first | omega | contradiction)) | (refine svc (fun hc => ?_) (fun hc => ?_) <;> try (exfalso; first | omega | contradiction)) | refine sv2 ?_ | refine svh (fun hb => ?_) (fun hb => ?_) | refine svb (fun b => ?_) | refine sva ?_ | refine sv3 ?_))
  refine R2.C (st _ _ _ ?_) ?_ <;> try assumption
  (repeat' (first | (refine iS ?_; refine iMu ?_; refine S.mapU ?_) | refine svz ⟨fun b hq => ?_⟩ | refine sv1 ?_ | refine svs ⟨?_⟩ | refine svu ⟨fun u => ?_⟩ | (refine svg (fun hg => ?_) (fun hg => ?_) <;> try (exfalso; first | omega | contradiction)) | (refine svc (fun hc => ?_) (fun hc => ?_) <;> try (exfalso; first | omega | contradiction)) | refine sv2 ?_ | refine svh (fun hb => ?_) (fun hb => ?_) | refine svb (fun b => ?_) | refine sva ?_ | refine sv3 ?_))
  refine R2.C (jm _ _ _ ?_ ?_) ?_ <;> try assumption
  (repeat' (first | (refine iS ?_; refine iMu ?_; refine S.mapU ?_) | refine svz ⟨fun b hq => ?_⟩ | refine sv1 ?_ | refine svs ⟨?_⟩ | refine svu ⟨fun u => ?_⟩ | (refine svg (fun hg => ?_) (fun hg => ?_) <;> try (exfalso; first | omega | contradiction)) | (refine svc (fun hc => ?_) (fun hc => ?_) <;> try (exfalso; first | omega | contradiction)) | refine sv2 ?_ | refine svh (fun hb => ?_) (fun hb => ?_) | refine svb (fun b => ?_) | refine sva ?_ | refine sv3 ?_))
  refine R2.C (st _ _ _ ?_) ?_ <;> try assumption
  (repeat' (first | (refine iS ?_; refine iMu ?_; refine S.mapU ?_) | refine svz ⟨fun b hq => ?_⟩ | refine sv1 ?_ | refine svs ⟨?_⟩ | refine svu ⟨fun u => ?_⟩ | (refine svg (fun hg => ?_) (fun hg => ?_) <;> try (exfalso; first | omega | contradiction)) | (refine svc (fun hc => ?_) (fun hc => ?_) <;> try (exfalso; first | omega | contradiction)) | refine sv2 ?_ | refine svh (fun hb => ?_) (fun hb => ?_) | refine svb (fun b => ?_) | refine sva ?_ | refine sv3 ?_))
  refine R2.C (jn _ _ _ ?_ ?_) ?_ <;> try assumption
  (repeat' (first | (refine iS ?_; refine iMu ?_; refine S.mapU ?_) | refine svz ⟨fun b hq => ?_⟩ | refine sv1 ?_ | refine svs ⟨?_⟩ | refine svu ⟨fun u => ?_⟩ | (refine svg (fun hg => ?_) (fun hg => ?_) <;> try (exfalso; first | omega | contradiction)) | (refine svc (fun hc => ?_) (fun hc => ?_) <;> try (exfalso; first | omega | contradiction)) | refine sv2 ?_ | refine svh (fun hb => ?_) (fun hb => ?_) | refine svb (fun b => ?_) | refine sva ?_ | refine sv3 ?_))
  refine R2.C (et _ _ ?_) ?_ <;> try assumption
  (repeat' (first | (refine iS ?_; refine iMu ?_; refine S.mapU ?_) | refine svz ⟨fun b hq => ?_⟩ | refine sv1 ?_ | refine svs ⟨?_⟩ | refine svu ⟨fun u => ?_⟩ | (refine svg (fun hg => ?_) (fun hg => ?_) <;> try (exfalso; first | omega | contradiction)) | (refine svc (fun hc => ?_) (fun hc => ?_) <;> try (exfalso; first | omega | contradiction)) | refine sv2 ?_ | refine svh (fun hb => ?_) (fun hb => ?_) | refine svb (fun b => ?_) | refine sva ?_ | refine sv3 ?_))
  refine R2.C (jx _ _ _ ?_ ?_) ?_ <;> try assumption
  (repeat' (first | (refine iS ?_; refine iMu ?_; refine S.mapU ?_) | refine svz ⟨fun b hq => ?_⟩ | refine sv1 ?_ | refine svs ⟨?_⟩ | refine svu ⟨fun u => ?_⟩ | (refine svg (fun hg => ?_) (fun hg => ?_) <;> try (exfalso; first | omega | contradiction)) | (refine svc (fun hc => ?_) (fun hc => ?_) <;> try (exfalso; first | omega | contradiction)) | refine sv2 ?_ | refine svh (fun hb => ?_) (fun hb => ?_) | refine svb (fun b => ?_) | refine sva ?_ | refine sv3 ?_))
  refine R2.C (et _ _ ?_) ?_ <;> try assumption
  (repeat' (first | (refine iS ?_; refine iMu ?_; refine S.mapU ?_) | refine svz ⟨fun b hq => ?_⟩ | refine sv1 ?_ | refine svs ⟨?_⟩ | refine svu ⟨fun u => ?_⟩ | (refine svg (fun hg => ?_) (fun hg => ?_) <;> try (exfalso; first | omega | contradiction)) | (refine svc (fun hc => ?_) (fun hc => ?_) <;> try (exfalso; first | omega | contradiction)) | refine sv2 ?_ | refine svh (fun hb => ?_) (fun hb => ?_) | refine svb (fun b => ?_) | refine sva ?_ | refine sv3 ?_))
  refine R2.C (ju A [] _ bA b0) ?_
  (repeat' (first | (refine iS ?_; refine iMu ?_; refine S.mapU ?_) | refine svz ⟨fun b hq => ?_⟩ | refine sv1 ?_ | refine svs ⟨?_⟩ | refine svu ⟨fun u => ?_⟩ | (refine svg (fun hg => ?_) (fun hg => ?_) <;> try (exfalso; first | omega | contradiction)) | (refine svc (fun hc => ?_) (fun hc => ?_) <;> try (exfalso; first | omega | contradiction)) | refine sv2 ?_ | refine svh (fun hb => ?_) (fun hb => ?_) | refine svb (fun b => ?_) | refine sva ?_ | refine sv3 ?_))
  refine R2.C (st _ _ _ ?_) ?_ <;> try assumption
  (repeat' (first | (refine iS ?_; refine iMu ?_; refine S.mapU ?_) | refine svz ⟨fun b hq => ?_⟩ | refine sv1 ?_ | refine svs ⟨?_⟩ | refine svu ⟨fun u => ?_⟩ | (refine svg (fun hg => ?_) (fun hg => ?_) <;> try (exfalso; first | omega | contradiction)) | (refine svc (fun hc => ?_) (fun hc => ?_) <;> try (exfalso; first | omega | contradiction)) | refine sv2 ?_ | refine svh (fun hb => ?_) (fun hb => ?_) | refine svb (fun b => ?_) | refine sva ?_ | refine sv3 ?_))
  refine R2.C (jm A [] _ bA b0) ?_
  (repeat' (first | (refine iS ?_; refine iMu ?_; refine S.mapU ?_) | refine svz ⟨fun b hq => ?_⟩ | refine sv1 ?_ | refine svs ⟨?_⟩ | refine svu ⟨fun u => ?_⟩ | (refine svg (fun hg => ?_) (fun hg => ?_) <;> try (exfalso; first | omega | contradiction)) | (refine svc (fun hc => ?_) (fun hc => ?_) <;> try (exfalso; first | omega | contradiction)) | refine sv2 ?_ | refine svh (fun hb => ?_) (fun hb => ?_) | refine svb (fun b => ?_) | refine sva ?_ | refine sv3 ?_))
  refine R2.C (et _ _ ?_) ?_ <;> try assumption
  (repeat' (first | (refine iS ?_; refine iMu ?_; refine S.mapU ?_) | refine svz ⟨fun b hq => ?_⟩ | refine sv1 ?_ | refine svs ⟨?_⟩ | refine svu ⟨fun u => ?_⟩ | (refine svg (fun hg => ?_) (fun hg => ?_) <;> try (exfalso; first | omega | contradiction)) | (refine svc (fun hc => ?_) (fun hc => ?_) <;> try (exfalso; first | omega | contradiction)) | refine sv2 ?_ | refine svh (fun hb => ?_) (fun hb => ?_) | refine svb (fun b => ?_) | refine sva ?_ | refine sv3 ?_))
  refine R2.C (jn A [] _ bA b0) ?_
  (repeat' (first | (refine iS ?_; refine iMu ?_; refine S.mapU ?_) | refine svz ⟨fun b hq => ?_⟩ | refine sv1 ?_ | refine svs ⟨?_⟩ | refine svu ⟨fun u => ?_⟩ | (refine svg (fun hg => ?_) (fun hg => ?_) <;> try (exfalso; first | omega | contradiction)) | (refine svc (fun hc => ?_) (fun hc => ?_) <;> try (exfalso; first | omega | contradiction)) | refine sv2 ?_ | refine svh (fun hb => ?_) (fun hb => ?_) | refine svb (fun b => ?_) | refine sva ?_ | refine sv3 ?_))
  refine R2.C (st _ _ _ ?_) ?_ <;> try assumption
  (repeat' (first | (refine iS ?_; refine iMu ?_; refine S.mapU ?_) | refine svz ⟨fun b hq => ?_⟩ | refine sv1 ?_ | refine svs ⟨?_⟩ | refine svu ⟨fun u => ?_⟩ | (refine svg (fun hg => ?_) (fun hg => ?_) <;> try (exfalso; first | omega | contradiction)) | (refine svc (fun hc => ?_) (fun hc => ?_) <;> try (exfalso; first | omega | contradiction)) | refine sv2 ?_ | refine svh (fun hb => ?_) (fun hb => ?_) | refine svb (fun b => ?_) | refine sva ?_ | refine sv3 ?_))
  refine R2.C (jx [] A _ b0 bA) ?_
  (repeat' (first | (refine iS ?_; refine iMu ?_; refine S.mapU ?_) | refine svz ⟨fun b hq => ?_⟩ | refine sv1 ?_ | refine svs ⟨?_⟩ | refine svu ⟨fun u => ?_⟩ | (refine svg (fun hg => ?_) (fun hg => ?_) <;> try (exfalso; first | omega | contradiction)) | (refine svc (fun hc => ?_) (fun hc => ?_) <;> try (exfalso; first | omega | contradiction)) | refine sv2 ?_ | refine svh (fun hb => ?_) (fun hb => ?_) | refine svb (fun b => ?_) | refine sva ?_ | refine sv3 ?_))
  refine R2.C (st _ _ _ ?_) ?_ <;> try assumption
  (repeat' (first | (refine iS ?_; refine iMu ?_; refine S.mapU ?_) | refine svz ⟨fun b hq => ?_⟩ | refine sv1 ?_ | refine svs ⟨?_⟩ | refine svu ⟨fun u => ?_⟩ | (refine svg (fun hg => ?_) (fun hg => ?_) <;> try (exfalso; first | omega | contradiction)) | (refine svc (fun hc => ?_) (fun hc => ?_) <;> try (exfalso; first | omega | contradiction)) | refine sv2 ?_ | refine svh (fun hb => ?_) (fun hb => ?_) | refine svb (fun b => ?_) | refine sva ?_ | refine sv3 ?_))
  refine R2.C (jn [] A _ b0 bA) ?_
  (repeat' (first | (refine iS ?_; refine iMu ?_; refine S.mapU ?_) | refine svz ⟨fun b hq => ?_⟩ | refine sv1 ?_ | refine svs ⟨?_⟩ | refine svu ⟨fun u => ?_⟩ | (refine svg (fun hg => ?_) (fun hg => ?_) <;> try (exfalso; first | omega | contradiction)) | (refine svc (fun hc => ?_) (fun hc => ?_) <;> try (exfalso; first | omega | contradiction)) | refine sv2 ?_ | refine svh (fun hb => ?_) (fun hb => ?_) | refine svb (fun b => ?_) | refine sva ?_ | refine sv3 ?_))
  refine R2.C (et _ _ ?_) ?_ <;> try assumption
  (repeat' (first | (refine iS ?_; refine iMu ?_; refine S.mapU ?_) | refine svz ⟨fun b hq => ?_⟩ | refine sv1 ?_ | refine svs ⟨?_⟩ | refine svu ⟨fun u => ?_⟩ | (refine svg (fun hg => ?_) (fun hg => ?_) <;> try (exfalso; first | omega | contradiction)) | (refine svc (fun hc => ?_) (fun hc => ?_) <;> try (exfalso; first | omega | contradiction)) | refine sv2 ?_ | refine svh (fun hb => ?_) (fun hb => ?_) | refine svb (fun b => ?_) | refine sva ?_ | refine sv3 ?_))
  refine R2.C (ju _ _ _ ?_ ?_) ?_ <;> try assumption
  (repeat' (first | (refine iS ?_; refine iMu ?_; refine S.mapU ?_) | refine svz ⟨fun b hq => ?_⟩ | refine sv1 ?_ | refine svs ⟨?_⟩ | refine svu ⟨fun u => ?_⟩ | (refine svg (fun hg => ?_) (fun hg => ?_) <;> try (exfalso; first | omega | contradiction)) | (refine svc (fun hc => ?_) (fun hc => ?_) <;> try (exfalso; first | omega | contradiction)) | refine sv2 ?_ | refine svh (fun hb => ?_) (fun hb => ?_) | refine svb (fun b => ?_) | refine sva ?_ | refine sv3 ?_))
  refine R2.C (st _ _ _ ?_) ?_ <;> try assumption
  (repeat' (first | (refine iS ?_; refine iMu ?_; refine S.mapU ?_) | refine svz ⟨fun b hq => ?_⟩ | refine sv1 ?_ | refine svs ⟨?_⟩ | refine svu ⟨fun u => ?_⟩ | (refine svg (fun hg => ?_) (fun hg => ?_) <;> try (exfalso; first | omega | contradiction)) | (refine svc (fun hc => ?_) (fun hc => ?_) <;> try (exfalso; first | omega | contradiction)) | refine sv2 ?_ | refine svh (fun hb => ?_) (fun hb => ?_) | refine svb (fun b => ?_) | refine sva ?_ | refine sv3 ?_))
  refine R2.C (jm _ _ _ ?_ ?_) ?_ <;> try assumption
  (repeat' (first | (refine iS ?_; refine iMu ?_; refine S.mapU ?_) | refine svz ⟨fun b hq => ?_⟩ | refine sv1 ?_ | refine svs ⟨?_⟩ | refine svu ⟨fun u => ?_⟩ | (refine svg (fun hg => ?_) (fun hg => ?_) <;> try (exfalso; first | omega | contradiction)) | (refine svc (fun hc => ?_) (fun hc => ?_) <;> try (exfalso; first | omega | contradiction)) | refine sv2 ?_ | refine svh (fun hb => ?_) (fun hb => ?_) | refine svb (fun b => ?_) | refine sva ?_ | refine sv3 ?_))
  refine R2.C (st _ _ _ ?_) ?_ <;> try assumption
  (repeat' (first | (refine iS ?_; refine iMu ?_; refine S.mapU ?_) | refine svz ⟨fun b hq => ?_⟩ | refine sv1 ?_ | refine svs ⟨?_⟩ | refine svu ⟨fun u => ?_⟩ | (refine svg (fun hg => ?_) (fun hg => ?_) <;> try (exfalso; first | omega | contradiction)) | (refine svc (fun hc => ?_) (fun hc => ?_) <;> try (exfalso; first | omega | contradiction)) | refine sv2 ?_ | refine svh (fun hb => ?_) (fun hb => ?_) | refine svb (fun b => ?_) | refine sva ?_ | refine sv3 ?_))
  refine R2.C (it _ _ _ ?_ ?_ ?_) ?_ <;> try assumption
  (repeat' (first | (refine iS ?_; refine iMu ?_; refine S.mapU ?_) | refine svz ⟨fun b hq => ?_⟩ | refine sv1 ?_ | refine svs ⟨?_⟩ | refine svu ⟨fun u => ?_⟩ | (refine svg (fun hg => ?_) (fun hg => ?_) <;> try (exfalso; first | omega | contradiction)) | (refine svc (fun hc => ?_) (fun hc => ?_) <;> try (exfalso; first | omega | contradiction)) | refine sv2 ?_ | refine svh (fun hb => ?_) (fun hb => ?_) | refine svb (fun b => ?_) | refine sva ?_ | refine sv3 ?_))
  refine R2.C (ji _) ?_
  (repeat' (first | (refine iS ?_; refine iMu ?_; refine S.mapU ?_) | refine svz ⟨fun b hq => ?_⟩ | refine sv1 ?_ | refine svs ⟨?_⟩ | refine svu ⟨fun u => ?_⟩ | (refine svg (fun hg => ?_) (fun hg => ?_) <;> try (exfalso; first | omega | contradiction)) | (refine svc (fun hc => ?_) (fun hc => ?_) <;> try (exfalso; first | omega | contradiction)) | refine sv2 ?_ | refine svh (fun hb => ?_) (fun hb => ?_) | refine svb (fun b => ?_) | refine sva ?_ | refine sv3 ?_))
  refine R2.C (ar2 _) ?_
  (repeat' (first | (refine iS ?_; refine iMu ?_; refine S.mapU ?_) | refine svz ⟨fun b hq => ?_⟩ | refine sv1 ?_ | refine svs ⟨?_⟩ | refine svu ⟨fun u => ?_⟩ | (refine svg (fun hg => ?_) (fun hg => ?_) <;> try (exfalso; first | omega | contradiction)) | (refine svc (fun hc => ?_) (fun hc => ?_) <;> try (exfalso; first | omega | contradiction)) | refine sv2 ?_ | refine svh (fun hb => ?_) (fun hb => ?_) | refine svb (fun b => ?_) | refine sva ?_ | refine sv3 ?_))
  refine R2.C (ar1 _) ?_
  by_cases hh : n2 = n1
  · (repeat' (first | (refine iS ?_; refine iMu ?_; refine S.mapU ?_) | refine svz ⟨fun b hq => ?_⟩ | refine sv1 ?_ | refine svs ⟨?_⟩ | refine svu ⟨fun u => ?_⟩ | (refine svg (fun hg => ?_) (fun hg => ?_) <;> try (exfalso; first | omega | contradiction)) | (refine svc (fun hc => ?_) (fun hc => ?_) <;> try (exfalso; first | omega | contradiction)) | refine sv2 ?_ | refine svh (fun hb => ?_) (fun hb => ?_) | refine svb (fun b => ?_) | refine sva ?_ | refine sv3 ?_))
    refine R2.C (awake_c _) ?_
    (repeat' (first | (refine iS ?_; refine iMu ?_; refine S.mapU ?_) | refine svz ⟨fun b hq => ?_⟩ | refine sv1 ?_ | refine svs ⟨?_⟩ | refine svu ⟨fun u => ?_⟩ | (refine svg (fun hg => ?_) (fun hg => ?_) <;> try (exfalso; first | omega | contradiction)) | (refine svc (fun hc => ?_) (fun hc => ?_) <;> try (exfalso; first | omega | contradiction)) | refine sv2 ?_ | refine svh (fun hb => ?_) (fun hb => ?_) | refine svb (fun b => ?_) | refine sva ?_ | refine sv3 ?_))
    exact fin_r (h' := _) rfl
  · (repeat' (first | (refine iS ?_; refine iMu ?_; refine S.mapU ?_) | refine svz ⟨fun b hq => ?_⟩ | refine sv1 ?_ | refine svs ⟨?_⟩ | refine svu ⟨fun u => ?_⟩ | (refine svg (fun hg => ?_) (fun hg => ?_) <;> try (exfalso; first | omega | contradiction)) | (refine svc (fun hc => ?_) (fun hc => ?_) <;> try (exfalso; first | omega | contradiction)) | refine sv2 ?_ | refine svh (fun hb => ?_) (fun hb => ?_) | refine svb (fun b => ?_) | refine sva ?_ | refine sv3 ?_))
    refine R2.C (awake_c _) ?_
    (repeat' (first | (refine iS ?_; refine iMu ?_; refine S.mapU ?_) | refine svz ⟨fun b hq => ?_⟩ | refine sv1 ?_ | refine svs ⟨?_⟩ | refine svu ⟨fun u => ?_⟩ | (refine svg (fun hg => ?_) (fun hg => ?_) <;> try (exfalso; first | omega | contradiction)) | (refine svc (fun hc => ?_) (fun hc => ?_) <;> try (exfalso; first | omega | contradiction)) | refine sv2 ?_ | refine svh (fun hb => ?_) (fun hb => ?_) | refine svb (fun b => ?_) | refine sva ?_ | refine sv3 ?_))
    exact fin_r (h' := _) rfl
theorem self_row : ∀ l, FitAll maxLen [.sl 4 (.fld 1 (.int .u8) (.fld 1 (.int .u8) (.fld 1 (.int .u8) (.fld 1 (.int .u8) (.nil))))), .fld 1 (.int .i64) (.fld 1 (.int .i64) (.fld 1 (.int .i64) (.fld 1 (.int .i64) (.nil))))] l → ACalls Try.prog 5 l [] (fun r h' => r = .val (.bool true)) := by
  rintro l ⟨x, _, rfl, hx, y, _, rfl, hy, rfl⟩
  obtain ⟨ls, rfl, _, hl⟩ := fit_sl (f := Sq.enc) hx (fun y hy => sm_fit hy)
  obtain ⟨c, rfl, hc⟩ := rc_fit hy
  exact self_c ls c hl hc
end Go.Proofs.Ytnedgbhbbpjllaa
