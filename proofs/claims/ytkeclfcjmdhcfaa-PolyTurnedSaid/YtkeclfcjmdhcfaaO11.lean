/- poly.rects: the rows stacked up. No condition. -/
import Derived.Test.YtkeclfcjmdhcfaaO9
import Derived.Test.YtkeclfcjmdhcfaaO10
namespace Go.Proofs.Ytkeclfcjmdhcfaa
open Go Go.VM
attribute [local irreducible] PurV Pur Step RL W D ACalls Then InBlock Fini
set_option linter.unusedVariables false
set_option linter.unusedSimpArgs false
set_option maxHeartbeats 20000000
instance fun_rects1 : TFun Try.prog 54 := ⟨by kernel_rfl⟩
set_option maxRecDepth 100000 in
theorem rects1_c (r s : RC) (h : Heap) : ACalls Try.prog 54 [r.enc, s.enc] h (fun z h' => z = .val (.bool (alikeQ r s)) ∧ h' = h) := by
  unfold alikeQ
  by_cases e : r.x = s.x
  · rw [decide_eq_true e, Bool.true_and]
    refine ACalls.intro Try.func54 rfl Try.ntmps54 Try.results54 (Nat.le_of_ble_eq_true rfl) ?_
    (repeat' (first | (refine iS ?_; refine iMu ?_; refine S.mapU ?_) | refine svz ⟨fun b hq => ?_⟩ | refine sv1 ?_ | refine svs ⟨?_⟩ | refine svu ⟨fun u => ?_⟩ | (refine svg (fun hg => ?_) (fun hg => ?_) <;> try (exfalso; first | omega | contradiction)) | (refine svc (fun hc => ?_) (fun hc => ?_) <;> try (exfalso; first | omega | contradiction)) | refine sv2 ?_ | refine svh (fun hb => ?_) (fun hb => ?_) | refine svb (fun b => ?_) | refine sva ?_ | refine sv3 ?_))
    exact fin_r (h' := _) ⟨rfl, rfl⟩
  · rw [decide_eq_false e, Bool.false_and]
    refine ACalls.intro Try.func54 rfl Try.ntmps54 Try.results54 (Nat.le_of_ble_eq_true rfl) ?_
    (repeat' (first | (refine iS ?_; refine iMu ?_; refine S.mapU ?_) | refine svz ⟨fun b hq => ?_⟩ | refine sv1 ?_ | refine svs ⟨?_⟩ | refine svu ⟨fun u => ?_⟩ | (refine svg (fun hg => ?_) (fun hg => ?_) <;> try (exfalso; first | omega | contradiction)) | (refine svc (fun hc => ?_) (fun hc => ?_) <;> try (exfalso; first | omega | contradiction)) | refine sv2 ?_ | refine svh (fun hb => ?_) (fun hb => ?_) | refine svb (fun b => ?_) | refine sva ?_ | refine sv3 ?_))
    exact fin_r (h' := _) ⟨rfl, rfl⟩
theorem map_step {f : RC → RC} {A M : List RC} {i : Nat} {r : RC} (hr : A[i]? = some r) (hM : M = (A.take i).map f ++ A.drop i) : M[i]? = some r ∧ M.set i (f r) = (A.take (i + 1)).map f ++ A.drop (i + 1) := by
  have hlt := (List.getElem?_eq_some_iff.1 hr).1
  have htl : ((A.take i).map f).length = i := by rw [List.length_map, List.length_take]; omega
  have hd : A.drop i = r :: A.drop (i + 1) := by
    obtain ⟨h1, h2⟩ := List.getElem?_eq_some_iff.1 hr
    rw [← h2]; exact List.drop_eq_getElem_cons h1
  rw [hM]
  constructor
  · rw [List.getElem?_append_right (by omega), htl, Nat.sub_self, List.getElem?_drop]; exact hr
  · rw [List.set_append_right _ _ (by omega), htl, Nat.sub_self, hd, List.take_add_one, hr]
    simp
theorem map_len {f : RC → RC} {A M : List RC} {i : Nat} (hi : i ≤ A.length) (hM : M = (A.take i).map f ++ A.drop i) : M.length = A.length := by
  rw [hM, List.length_append, List.length_map, List.length_take, List.length_drop]; omega
theorem map_all {f : RC → RC} {A M : List RC} {i : Nat} (hi : A.length ≤ i) (hM : M = (A.take i).map f ++ A.drop i) : M = A.map f := by
  rw [hM, List.take_of_length_le hi, List.drop_eq_nil_of_le hi, List.append_nil]
set_option maxRecDepth 100000 in
theorem prects_c (rule f t lo hi : Int) (l : List PT) (fv : AV) (g : Nat) (caps : List AV) [TFun Try.prog g] (hF : Fv fv g caps) (h : Heap) (hft : f ≤ t) (hfl : -1048576 ≤ f) (htl : t ≤ 1048576) (hs : t - f ≤ 4096) (hlo : -1048576 ≤ lo) (hhi : hi ≤ 1048576) (hl : l.length ≤ 14)
    (hT : ∀ y, f ≤ y → y < t → ACalls Try.prog g ([.val (.int .i64 (y))] ++ caps) h (fun r h' => ∃ v R, r = .val v ∧ RowF rule y lo hi l R ∧ h' = .own v 4 (R.map RC.enc) 60 :: h)) :
    ACalls Try.prog 36 [.val (.int .i64 (f)), .val (.int .i64 (t)), fv] h (fun r h' => ∃ v O L, r = .val v ∧ RectsI rule lo hi f l t O L ∧ h' = .own v 4 ((O ++ L).map RC.enc) 60 :: h) := by
  refine ACalls.intro Try.func36 rfl Try.ntmps36 Try.results36 (Nat.le_of_ble_eq_true rfl) ?_
  (repeat' (first | (refine iS ?_; refine iMu ?_; refine S.mapU ?_) | refine svz ⟨fun b hq => ?_⟩ | refine sv1 ?_ | refine svs ⟨?_⟩ | refine svu ⟨fun u => ?_⟩ | (refine svg (fun hg => ?_) (fun hg => ?_) <;> try (exfalso; first | omega | contradiction)) | (refine svc (fun hc => ?_) (fun hc => ?_) <;> try (exfalso; first | omega | contradiction)) | refine sv2 ?_ | refine svh (fun hb => ?_) (fun hb => ?_) | refine svb (fun b => ?_) | refine sva ?_ | refine sv3 ?_))
  refine W.nil_ 4 60 ?_
  refine W.nil_ 4 60 ?_
  refine W.loop (J := fun q : Nat × List RC × List RC × Value × Value => ⟨45, [(9, .val (.int .i64 (f + q.1))), (8, .val q.2.2.2.2), (7, .val q.2.2.2.1), (2, fv), (1, .val (.int .i64 (t))), (0, .val (.int .i64 (f)))], .own q.2.2.2.2 4 (q.2.2.1.map RC.enc) 60 :: .own q.2.2.2.1 4 (q.2.1.map RC.enc) 60 :: h⟩)
    (Φ := fun q => RectsI rule lo hi f l (f + q.1) q.2.1 q.2.2.1 ∧ f + q.1 ≤ t) (μ := fun q => (t - f - q.1).toNat) (0, [], [], .slice none 0 0, .slice none 0 0) (by dsimp only; rw [show f + ((0 : Nat) : Int) = f by omega]; exact ⟨rfl, (by repeat (first | exact LeT.nil | refine LeT.cons rfl ?_ | refine LeT.consw rfl (by (repeat (first | exact Wk.refl _ | exact Wk.nilr _ | exact Wk.nilm | apply Wk.aggc | apply Wk.tupc | exact Wk.aggn | exact Wk.tupn)); first | done | fail) ?_)), (by repeat (first | exact LeH.refl _ | exact LeH.nil _ | refine LeH.cons (by (fail_if_success (apply tkG)); (repeat (first | exact Tk.here | apply Tk.there)); first | done | fail) ?_ | refine LeH.boxw (by (fail_if_success (apply tkG)); (repeat (first | exact Tk.here | apply Tk.there)); first | done | fail) (by (repeat (first | exact Wk.refl _ | exact Wk.nilr _ | exact Wk.nilm | apply Wk.aggc | apply Wk.tupc | exact Wk.aggn | exact Wk.tupn)); first | done | fail) ?_ | refine LeH.skip ?_))⟩) ⟨by dsimp only; rw [show f + ((0 : Nat) : Int) = f by omega]; exact rectsI_0, by dsimp only; omega⟩ ?_
  rintro ⟨k, O, L, vo, vl⟩ ⟨hI, hk⟩
  dsimp only at hI hk ⊢
  have hlen := hI.len
  have hlL := hI.lenL
  rcases Int.lt_or_le (f + k) t with hlt | hge
  · have ek : f + (k : Int) + 1 = f + ((k + 1 : Nat) : Int) := by omega
    (repeat' (first | (refine iS ?_; refine iMu ?_; refine S.mapU ?_) | refine svz ⟨fun b hq => ?_⟩ | refine sv1 ?_ | refine svs ⟨?_⟩ | refine svu ⟨fun u => ?_⟩ | (refine svg (fun hg => ?_) (fun hg => ?_) <;> try (exfalso; first | omega | contradiction)) | (refine svc (fun hc => ?_) (fun hc => ?_) <;> try (exfalso; first | omega | contradiction)) | refine sv2 ?_ | refine svh (fun hb => ?_) (fun hb => ?_) | refine svb (fun b => ?_) | refine sva ?_ | refine sv3 ?_))
    refine S.callv hF ?_
    refine ((hT (f + k) (by omega) hlt).beside [.own vl 4 (L.map RC.enc) 60, .own vo 4 (O.map RC.enc) 60]).mono ?_
    rintro r h' ⟨_, ⟨vn, R, rfl, hR, rfl⟩, rfl⟩
    show RL _ _ _ _ ⟨_, _, .own vl 4 (L.map RC.enc) 60 :: .own vo 4 (O.map RC.enc) 60 :: .own vn 4 (R.map RC.enc) 60 :: h⟩ _
    (repeat' (first | (refine iS ?_; refine iMu ?_; refine S.mapU ?_) | refine svz ⟨fun b hq => ?_⟩ | refine sv1 ?_ | refine svs ⟨?_⟩ | refine svu ⟨fun u => ?_⟩ | (refine svg (fun hg => ?_) (fun hg => ?_) <;> try (exfalso; first | omega | contradiction)) | (refine svc (fun hc => ?_) (fun hc => ?_) <;> try (exfalso; first | omega | contradiction)) | refine sv2 ?_ | refine svh (fun hb => ?_) (fun hb => ?_) | refine svb (fun b => ?_) | refine sva ?_ | refine sv3 ?_))
    refine S.call ?_
    refine (acalls_b (vs' := [.ro 4 (L.map RC.enc), .ro 4 (R.map RC.enc), .val (.func (.func 54) #[] #[])]) (by (repeat' (first | exact Bor.nil | refine Bor.own (by (fail_if_success (apply memG)); repeat (first | exact List.Mem.head _ | assumption | refine List.Mem.tail _ ?_)) ?_ | refine Bor.vw (by (fail_if_success (apply memG)); repeat (first | exact List.Mem.head _ | assumption | refine List.Mem.tail _ ?_)) (by first | omega | (simp only [ints, splice, List.length_map, List.length_append, List.length_cons, List.length_nil, List.length_take, List.length_drop, List.length_set, List.length_replicate]; omega)) ?_ | refine Bor.same ?_))) (equalfunc_c alikeQ L R (Fv.fn _) [] (fun r _ s => rects1_c r s [])) ?_).mono ?_
    · rintro r hr ⟨rfl, rfl⟩
      exact ⟨sc_val _, fun x hx => by cases hx⟩
    rintro r h' ⟨hr, rfl, rfl, rfl⟩
    show RL _ _ _ _ ⟨_, _, .own vl 4 (L.map RC.enc) 60 :: .own vo 4 (O.map RC.enc) 60 :: .own vn 4 (R.map RC.enc) 60 :: h⟩ _
    cases he : eqF alikeQ L R with
    | false =>
      have hn := rectsI_next hI hl hR
      have hRh := hR.half
      clear hI hR
      (repeat' (first | (refine iS ?_; refine iMu ?_; refine S.mapU ?_) | refine svz ⟨fun b hq => ?_⟩ | refine sv1 ?_ | refine svs ⟨?_⟩ | refine svu ⟨fun u => ?_⟩ | (refine svg (fun hg => ?_) (fun hg => ?_) <;> try (exfalso; first | omega | contradiction)) | (refine svc (fun hc => ?_) (fun hc => ?_) <;> try (exfalso; first | omega | contradiction)) | refine sv2 ?_ | refine svh (fun hb => ?_) (fun hb => ?_) | refine svb (fun b => ?_) | refine sva ?_ | refine sv3 ?_))
      rw [ek]
      exact ⟨(k + 1, O ++ L, R, u, vn), ⟨by dsimp only; rw [← ek, Int.add_assoc] at *; exact hn, by dsimp only; omega⟩, by dsimp only; rw [List.map_append]; exact ⟨rfl, (by repeat (first | exact LeT.nil | refine LeT.cons rfl ?_ | refine LeT.consw rfl (by (repeat (first | exact Wk.refl _ | exact Wk.nilr _ | exact Wk.nilm | apply Wk.aggc | apply Wk.tupc | exact Wk.aggn | exact Wk.tupn)); first | done | fail) ?_)), (by repeat (first | exact LeH.refl _ | exact LeH.nil _ | refine LeH.cons (by (fail_if_success (apply tkG)); (repeat (first | exact Tk.here | apply Tk.there)); first | done | fail) ?_ | refine LeH.boxw (by (fail_if_success (apply tkG)); (repeat (first | exact Tk.here | apply Tk.there)); first | done | fail) (by (repeat (first | exact Wk.refl _ | exact Wk.nilr _ | exact Wk.nilm | apply Wk.aggc | apply Wk.tupc | exact Wk.aggn | exact Wk.tupn)); first | done | fail) ?_ | refine LeH.skip ?_))⟩, by dsimp only; omega⟩
    | true =>
      have hn := rectsI_same hI hR he
      have hok := fun r (hr : r ∈ L) => hI.ok r (List.mem_append_right _ hr)
      clear hI hR
      (repeat' (first | (refine iS ?_; refine iMu ?_; refine S.mapU ?_) | refine svz ⟨fun b hq => ?_⟩ | refine sv1 ?_ | refine svs ⟨?_⟩ | refine svu ⟨fun u => ?_⟩ | (refine svg (fun hg => ?_) (fun hg => ?_) <;> try (exfalso; first | omega | contradiction)) | (refine svc (fun hc => ?_) (fun hc => ?_) <;> try (exfalso; first | omega | contradiction)) | refine sv2 ?_ | refine svh (fun hb => ?_) (fun hb => ?_) | refine svb (fun b => ?_) | refine sva ?_ | refine sv3 ?_))
      refine W.loop (J := fun i : Nat => ⟨45, [(26, .val (.int .i64 (i))), (25, .val (.int .i64 (L.length))), (9, .val (.int .i64 (f + k))), (8, .val vl), (7, .val vo), (2, fv), (1, .val (.int .i64 (t))), (0, .val (.int .i64 (f)))], .own vl 4 (((L.take i).map upR ++ L.drop i).map RC.enc) 60 :: .own vo 4 (O.map RC.enc) 60 :: h⟩)
        (Φ := fun i => i ≤ L.length) (μ := fun i => L.length - i) 0 ⟨rfl, (by repeat (first | exact LeT.nil | refine LeT.cons rfl ?_ | refine LeT.consw rfl (by (repeat (first | exact Wk.refl _ | exact Wk.nilr _ | exact Wk.nilm | apply Wk.aggc | apply Wk.tupc | exact Wk.aggn | exact Wk.tupn)); first | done | fail) ?_)), (by repeat (first | exact LeH.refl _ | exact LeH.nil _ | refine LeH.cons (by (fail_if_success (apply tkG)); (repeat (first | exact Tk.here | apply Tk.there)); first | done | fail) ?_ | refine LeH.boxw (by (fail_if_success (apply tkG)); (repeat (first | exact Tk.here | apply Tk.there)); first | done | fail) (by (repeat (first | exact Wk.refl _ | exact Wk.nilr _ | exact Wk.nilm | apply Wk.aggc | apply Wk.tupc | exact Wk.aggn | exact Wk.tupn)); first | done | fail) ?_ | refine LeH.skip ?_))⟩ (Nat.zero_le _) ?_
      intro i hi
      rcases Nat.lt_or_ge i L.length with hlt2 | hge2
      · obtain ⟨r, hr⟩ : ∃ r, L[i]? = some r := ⟨_, List.getElem?_eq_getElem hlt2⟩
        have hrk := hok r (List.mem_of_getElem? hr)
        obtain ⟨m1, m2⟩ := map_step (f := upR) (M := (L.take i).map upR ++ L.drop i) hr rfl
        have m3 := map_len (f := upR) hi rfl
        clear hok
        generalize hMd : (L.take i).map upR ++ L.drop i = M at *
        have hM : i < M.length := by omega
        have hMr : M[i]'hM = r := by rw [List.getElem?_eq_getElem hM] at m1; injection m1
        (repeat' (first | (refine iS ?_; refine iMu ?_; refine S.mapU ?_) | refine svz ⟨fun b hq => ?_⟩ | refine sv1 ?_ | refine svs ⟨?_⟩ | refine svu ⟨fun u => ?_⟩ | (refine svg (fun hg => ?_) (fun hg => ?_) <;> try (exfalso; first | omega | contradiction)) | (refine svc (fun hc => ?_) (fun hc => ?_) <;> try (exfalso; first | omega | contradiction)) | refine sv2 ?_ | refine svh (fun hb => ?_) (fun hb => ?_) | refine svb (fun b => ?_) | refine sva ?_ | refine sv3 ?_))
        exact ⟨i + 1, hlt2, by rw [← m2]; unfold upR; rw [List.map_set]; exact ⟨rfl, (by repeat (first | exact LeT.nil | refine LeT.cons rfl ?_ | refine LeT.consw rfl (by (repeat (first | exact Wk.refl _ | exact Wk.nilr _ | exact Wk.nilm | apply Wk.aggc | apply Wk.tupc | exact Wk.aggn | exact Wk.tupn)); first | done | fail) ?_)), (by repeat (first | exact LeH.refl _ | exact LeH.nil _ | refine LeH.cons (by (fail_if_success (apply tkG)); (repeat (first | exact Tk.here | apply Tk.there)); first | done | fail) ?_ | refine LeH.boxw (by (fail_if_success (apply tkG)); (repeat (first | exact Tk.here | apply Tk.there)); first | done | fail) (by (repeat (first | exact Wk.refl _ | exact Wk.nilr _ | exact Wk.nilm | apply Wk.aggc | apply Wk.tupc | exact Wk.aggn | exact Wk.tupn)); first | done | fail) ?_ | refine LeH.skip ?_))⟩, by omega⟩
      · rw [map_all hge2 rfl]
        (repeat' (first | (refine iS ?_; refine iMu ?_; refine S.mapU ?_) | refine svz ⟨fun b hq => ?_⟩ | refine sv1 ?_ | refine svs ⟨?_⟩ | refine svu ⟨fun u => ?_⟩ | (refine svg (fun hg => ?_) (fun hg => ?_) <;> try (exfalso; first | omega | contradiction)) | (refine svc (fun hc => ?_) (fun hc => ?_) <;> try (exfalso; first | omega | contradiction)) | refine sv2 ?_ | refine svh (fun hb => ?_) (fun hb => ?_) | refine svb (fun b => ?_) | refine sva ?_ | refine sv3 ?_))
        rw [ek]
        exact ⟨(k + 1, O, L.map upR, vo, vl), ⟨by dsimp only; rw [← ek, Int.add_assoc] at *; exact hn, by dsimp only; omega⟩, ⟨rfl, (by repeat (first | exact LeT.nil | refine LeT.cons rfl ?_ | refine LeT.consw rfl (by (repeat (first | exact Wk.refl _ | exact Wk.nilr _ | exact Wk.nilm | apply Wk.aggc | apply Wk.tupc | exact Wk.aggn | exact Wk.tupn)); first | done | fail) ?_)), (by repeat (first | exact LeH.refl _ | exact LeH.nil _ | refine LeH.cons (by (fail_if_success (apply tkG)); (repeat (first | exact Tk.here | apply Tk.there)); first | done | fail) ?_ | refine LeH.boxw (by (fail_if_success (apply tkG)); (repeat (first | exact Tk.here | apply Tk.there)); first | done | fail) (by (repeat (first | exact Wk.refl _ | exact Wk.nilr _ | exact Wk.nilm | apply Wk.aggc | apply Wk.tupc | exact Wk.aggn | exact Wk.tupn)); first | done | fail) ?_ | refine LeH.skip ?_))⟩, by dsimp only; omega⟩
  · have e : f + (k : Int) = t := by omega
    rw [e] at hI
    (repeat' (first | (refine iS ?_; refine iMu ?_; refine S.mapU ?_) | refine svz ⟨fun b hq => ?_⟩ | refine sv1 ?_ | refine svs ⟨?_⟩ | refine svu ⟨fun u => ?_⟩ | (refine svg (fun hg => ?_) (fun hg => ?_) <;> try (exfalso; first | omega | contradiction)) | (refine svc (fun hc => ?_) (fun hc => ?_) <;> try (exfalso; first | omega | contradiction)) | refine sv2 ?_ | refine svh (fun hb => ?_) (fun hb => ?_) | refine svb (fun b => ?_) | refine sva ?_ | refine sv3 ?_))
    refine fin_r (h' := .own u 4 ((O ++ L).map RC.enc) 60 :: h) ⟨u, O, L, rfl, hI, rfl⟩ (h2 := ?_)
    rw [List.map_append]
    exact (by repeat (first | exact LeH.refl _ | exact LeH.nil _ | refine LeH.cons (by (fail_if_success (apply tkG)); (repeat (first | exact Tk.here | apply Tk.there)); first | done | fail) ?_ | refine LeH.boxw (by (fail_if_success (apply tkG)); (repeat (first | exact Tk.here | apply Tk.there)); first | done | fail) (by (repeat (first | exact Wk.refl _ | exact Wk.nilr _ | exact Wk.nilm | apply Wk.aggc | apply Wk.tupc | exact Wk.aggn | exact Wk.tupn)); first | done | fail) ?_ | refine LeH.skip ?_))
end Go.Proofs.Ytkeclfcjmdhcfaa
