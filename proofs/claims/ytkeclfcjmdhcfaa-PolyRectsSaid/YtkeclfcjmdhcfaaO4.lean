/- poly: the edges, Turns, Twice, Inside; the reference's. No condition. -/
import Derived.Test.YtkeclfcjmdhcfaaO3
import Derived.Test.YtkeclfcjmdhcfaaVM28
namespace Go.Proofs.Ytkeclfcjmdhcfaa
open Go Go.VM
attribute [local irreducible] PurV Pur Step RL W D ACalls Then InBlock Fini
set_option linter.unusedVariables false
set_option linter.unusedSimpArgs false
set_option maxHeartbeats 20000000
instance fun_edges1 : TFun Try.prog 52 := ⟨by kernel_rfl⟩
set_option maxRecDepth 100000 in
theorem edges_c (l : List PT) (h : Heap) : ACalls Try.prog 34 [.ro 2 (l.map PT.enc)] h (fun r h' => ∃ g1, r = .clo (.func 52) [.val (.pointer (some ⟨g1, 0, none⟩))] ∧ h' = .box g1 [.ro 2 (l.map PT.enc)] 24 :: h) := by
  refine ACalls.intro Try.func34 rfl Try.ntmps34 Try.results34 (Nat.le_of_ble_eq_true rfl) ?_
  (repeat' (first | (refine iS ?_; refine iMu ?_; refine S.mapU ?_) | refine svz ⟨fun b hq => ?_⟩ | refine sv1 ?_ | refine svs ⟨?_⟩ | refine svu ⟨fun u => ?_⟩ | (refine svg (fun hg => ?_) (fun hg => ?_) <;> try (exfalso; first | omega | contradiction)) | (refine svc (fun hc => ?_) (fun hc => ?_) <;> try (exfalso; first | omega | contradiction)) | refine sv2 ?_ | refine svh (fun hb => ?_) (fun hb => ?_) | refine svb (fun b => ?_) | refine sva ?_ | refine sv3 ?_))
  exact fin_r (h' := _) ⟨b, rfl, rfl⟩
theorem rem_nat {i n : Nat} : ((i : Int) + 1) % (n : Int) = (((i + 1) % n : Nat) : Int) := by
  rw [Int.natCast_emod]; push_cast; rfl
set_option maxRecDepth 100000 in
theorem edges_iter (l : List PT) (g1 : Nat) (hl : l.length ≤ 1000000) : Iter Try.prog 52 [.val (.pointer (some ⟨g1, 0, none⟩))] [.box g1 [.ro 2 (l.map PT.enc)] 24] ((edgesP l).map fun e => [e.1.enc, e.2.enc]) := by
  intro lp R Z hy h h0
  refine ACalls.intro Try.func52 rfl Try.ntmps52 Try.results52 (Nat.le_of_ble_eq_true rfl) ?_
  show W none _ _ _ ⟨_, _, .box g1 [.ro 2 (l.map PT.enc)] 24 :: h⟩
  (repeat' (first | (refine iS ?_; refine iMu ?_; refine S.mapU ?_) | refine svz ⟨fun b hq => ?_⟩ | refine sv1 ?_ | refine svs ⟨?_⟩ | refine svu ⟨fun u => ?_⟩ | (refine svg (fun hg => ?_) (fun hg => ?_) <;> try (exfalso; first | omega | contradiction)) | (refine svc (fun hc => ?_) (fun hc => ?_) <;> try (exfalso; first | omega | contradiction)) | refine sv2 ?_ | refine svh (fun hb => ?_) (fun hb => ?_) | refine svb (fun b => ?_) | refine sva ?_ | refine sv3 ?_))
  refine W.loop (J := fun q : Nat × Heap => ⟨25, [(7, .val (.int .i64 (q.1 : Int))), (6, .val (.int .i64 (l.length : Int))), (5, .ro 2 (l.map PT.enc)), (0, .val (.func (.yield lp) #[] #[])), (1, .val (.pointer (some ⟨g1, 0, none⟩)))], .box g1 [.ro 2 (l.map PT.enc)] 24 :: q.2⟩)
    (Φ := fun q => q.1 ≤ l.length ∧ R q.1 q.2) (μ := fun q => l.length - q.1) (0, h) ⟨rfl, (by repeat (first | exact LeT.nil | refine LeT.cons rfl ?_ | refine LeT.consw rfl (by (repeat (first | exact Wk.refl _ | exact Wk.nilr _ | exact Wk.nilm | apply Wk.aggc | apply Wk.tupc | exact Wk.aggn | exact Wk.tupn)); first | done | fail) ?_)), (by repeat (first | exact LeH.refl _ | exact LeH.nil _ | refine LeH.cons (by (fail_if_success (apply tkG)); (repeat (first | exact Tk.here | apply Tk.there)); first | done | fail) ?_ | refine LeH.boxw (by (fail_if_success (apply tkG)); (repeat (first | exact Tk.here | apply Tk.there)); first | done | fail) (by (repeat (first | exact Wk.refl _ | exact Wk.nilr _ | exact Wk.nilm | apply Wk.aggc | apply Wk.tupc | exact Wk.aggn | exact Wk.tupn)); first | done | fail) ?_ | refine LeH.skip ?_))⟩ ⟨Nat.zero_le _, h0⟩ ?_
  rintro ⟨i, hh⟩ ⟨hi, hR⟩
  dsimp only at hi hR ⊢
  rcases Nat.lt_or_ge i l.length with hlt | hge
  · obtain ⟨q1, q2⟩ := ed_at hlt
    have hat : (edgesP l)[i]? = some ((edP l i).1, (edP l i).2) := edges_at hlt
    have hq : Unit → ((i : Int) + 1) % (l.length : Int) = (((i + 1) % l.length : Nat) : Int) := fun _ => rem_nat
    have hml : (i + 1) % l.length < l.length := Nat.mod_lt _ (by omega)
    generalize (i + 1) % l.length = m at *
    generalize (edP l i).1 = p1 at *
    generalize (edP l i).2 = p2 at *
    (repeat' (first | (refine iS ?_; refine iMu ?_; refine S.mapU ?_) | refine svz ⟨fun b hq => ?_⟩ | refine sv1 ?_ | refine svs ⟨?_⟩ | refine svu ⟨fun u => ?_⟩ | (refine svg (fun hg => ?_) (fun hg => ?_) <;> try (exfalso; first | omega | contradiction)) | (refine svc (fun hc => ?_) (fun hc => ?_) <;> try (exfalso; first | omega | contradiction)) | refine sv2 ?_ | refine svh (fun hb => ?_) (fun hb => ?_) | refine svb (fun b => ?_) | refine sva ?_ | refine sv3 ?_))
    rw [hq ()]
    clear hq
    (repeat' (first | (refine iS ?_; refine iMu ?_; refine S.mapU ?_) | refine svz ⟨fun b hq => ?_⟩ | refine sv1 ?_ | refine svs ⟨?_⟩ | refine svu ⟨fun u => ?_⟩ | (refine svg (fun hg => ?_) (fun hg => ?_) <;> try (exfalso; first | omega | contradiction)) | (refine svc (fun hc => ?_) (fun hc => ?_) <;> try (exfalso; first | omega | contradiction)) | refine sv2 ?_ | refine svh (fun hb => ?_) (fun hb => ?_) | refine svb (fun b => ?_) | refine sva ?_ | refine sv3 ?_))
    refine R2.Y ((hy _ _ hh hR (by rw [List.getElem?_map, hat]; rfl)).mono ?_)
    rintro bb h' (⟨rfl, hR'⟩ | ⟨rfl, hZ⟩)
    · (repeat' (first | (refine iS ?_; refine iMu ?_; refine S.mapU ?_) | refine svz ⟨fun b hq => ?_⟩ | refine sv1 ?_ | refine svs ⟨?_⟩ | refine svu ⟨fun u => ?_⟩ | (refine svg (fun hg => ?_) (fun hg => ?_) <;> try (exfalso; first | omega | contradiction)) | (refine svc (fun hc => ?_) (fun hc => ?_) <;> try (exfalso; first | omega | contradiction)) | refine sv2 ?_ | refine svh (fun hb => ?_) (fun hb => ?_) | refine svb (fun b => ?_) | refine sva ?_ | refine sv3 ?_))
      exact ⟨(i + 1, h'), ⟨hlt, hR'⟩, ⟨rfl, (by repeat (first | exact LeT.nil | refine LeT.cons rfl ?_ | refine LeT.consw rfl (by (repeat (first | exact Wk.refl _ | exact Wk.nilr _ | exact Wk.nilm | apply Wk.aggc | apply Wk.tupc | exact Wk.aggn | exact Wk.tupn)); first | done | fail) ?_)), (by repeat (first | exact LeH.refl _ | exact LeH.nil _ | refine LeH.cons (by (fail_if_success (apply tkG)); (repeat (first | exact Tk.here | apply Tk.there)); first | done | fail) ?_ | refine LeH.boxw (by (fail_if_success (apply tkG)); (repeat (first | exact Tk.here | apply Tk.there)); first | done | fail) (by (repeat (first | exact Wk.refl _ | exact Wk.nilr _ | exact Wk.nilm | apply Wk.aggc | apply Wk.tupc | exact Wk.aggn | exact Wk.tupn)); first | done | fail) ?_ | refine LeH.skip ?_))⟩, by dsimp only; omega⟩
    · (repeat' (first | (refine iS ?_; refine iMu ?_; refine S.mapU ?_) | refine svz ⟨fun b hq => ?_⟩ | refine sv1 ?_ | refine svs ⟨?_⟩ | refine svu ⟨fun u => ?_⟩ | (refine svg (fun hg => ?_) (fun hg => ?_) <;> try (exfalso; first | omega | contradiction)) | (refine svc (fun hc => ?_) (fun hc => ?_) <;> try (exfalso; first | omega | contradiction)) | refine sv2 ?_ | refine svh (fun hb => ?_) (fun hb => ?_) | refine svb (fun b => ?_) | refine sva ?_ | refine sv3 ?_))
      exact fin_r (h' := .box g1 [.ro 2 (l.map PT.enc)] 24 :: h') ⟨h', rfl, .inr hZ⟩
  · have e : i = l.length := by omega
    subst e
    (repeat' (first | (refine iS ?_; refine iMu ?_; refine S.mapU ?_) | refine svz ⟨fun b hq => ?_⟩ | refine sv1 ?_ | refine svs ⟨?_⟩ | refine svu ⟨fun u => ?_⟩ | (refine svg (fun hg => ?_) (fun hg => ?_) <;> try (exfalso; first | omega | contradiction)) | (refine svc (fun hc => ?_) (fun hc => ?_) <;> try (exfalso; first | omega | contradiction)) | refine sv2 ?_ | refine svh (fun hb => ?_) (fun hb => ?_) | refine svb (fun b => ?_) | refine sva ?_ | refine sv3 ?_))
    exact fin_n (h' := .box g1 [.ro 2 (l.map PT.enc)] 24 :: hh) ⟨hh, rfl, .inl (by rw [List.length_map, edges_len]; exact hR)⟩
set_option maxRecDepth 100000 in
theorem twice_c (l : List PT) (h : Heap) : ACalls Try.prog 16 [.ro 2 (l.map PT.enc)] h (fun r h' => r = .val (.int .i64 (twiceX l)) ∧ h' = h) := by
  have h1 := fun h => right_c l h
  have h2 := fun h => edges_c l h
  unfold twiceX
  by_cases hr : rightF l = true
  · rw [if_pos hr]
    rw [hr] at h1
    have hnr := rightF_near hr
    have hln := rightF_len hr
    refine ACalls.intro Try.func16 rfl Try.ntmps16 Try.results16 (Nat.le_of_ble_eq_true rfl) ?_
    (repeat' (first | (refine iS ?_; refine iMu ?_; refine S.mapU ?_) | refine svz ⟨fun b hq => ?_⟩ | refine sv1 ?_ | refine svs ⟨?_⟩ | refine svu ⟨fun u => ?_⟩ | (refine svg (fun hg => ?_) (fun hg => ?_) <;> try (exfalso; first | omega | contradiction)) | (refine svc (fun hc => ?_) (fun hc => ?_) <;> try (exfalso; first | omega | contradiction)) | refine sv2 ?_ | refine svh (fun hb => ?_) (fun hb => ?_) | refine svb (fun b => ?_) | refine sva ?_ | refine sv3 ?_))
    refine S.call ?_; refine (h1 _).mono ?_; rintro r h' ⟨rfl, hh⟩; subst hh
    (repeat' (first | (refine iS ?_; refine iMu ?_; refine S.mapU ?_) | refine svz ⟨fun b hq => ?_⟩ | refine sv1 ?_ | refine svs ⟨?_⟩ | refine svu ⟨fun u => ?_⟩ | (refine svg (fun hg => ?_) (fun hg => ?_) <;> try (exfalso; first | omega | contradiction)) | (refine svc (fun hc => ?_) (fun hc => ?_) <;> try (exfalso; first | omega | contradiction)) | refine sv2 ?_ | refine svh (fun hb => ?_) (fun hb => ?_) | refine svb (fun b => ?_) | refine sva ?_ | refine sv3 ?_))
    revert b; intro b3
    refine S.call ?_
    refine (h2 _).mono ?_
    rintro r' h' ⟨g1, rfl, hh⟩; subst hh
    (repeat' (first | (refine iS ?_; refine iMu ?_; refine S.mapU ?_) | refine svz ⟨fun b hq => ?_⟩ | refine sv1 ?_ | refine svs ⟨?_⟩ | refine svu ⟨fun u => ?_⟩ | (refine svg (fun hg => ?_) (fun hg => ?_) <;> try (exfalso; first | omega | contradiction)) | (refine svc (fun hc => ?_) (fun hc => ?_) <;> try (exfalso; first | omega | contradiction)) | refine sv2 ?_ | refine svh (fun hb => ?_) (fun hb => ?_) | refine svb (fun b => ?_) | refine sva ?_ | refine sv3 ?_))
    have it := edges_iter l g1 (by omega)
    have hq := edges_len l
    refine W.range (fun k hh => hh = .box b3 [.val (.int .i64 (sumF (fun e => e.1.x * e.2.y - e.2.x * e.1.y) ((edgesP l).take k)))] 3 :: h') (fun c hh => False) it (h0 := .box b3 [.val (.int .i64 0)] 3 :: h') rfl ?_ ?_ (fun c h hf => hf.elim) (fun x hx => by obtain ⟨s, _, rfl⟩ := List.mem_map.1 hx; rfl) (by repeat (first | exact LeH.refl _ | exact LeH.nil _ | refine LeH.cons (by (fail_if_success (apply tkG)); (repeat (first | exact Tk.here | apply Tk.there)); first | done | fail) ?_ | refine LeH.boxw (by (fail_if_success (apply tkG)); (repeat (first | exact Tk.here | apply Tk.there)); first | done | fail) (by (repeat (first | exact Wk.refl _ | exact Wk.nilr _ | exact Wk.nilm | apply Wk.aggc | apply Wk.tupc | exact Wk.aggn | exact Wk.tupn)); first | done | fail) ?_ | refine LeH.skip ?_))
    · rintro lp k x hh rfl hx
      rw [List.getElem?_map] at hx
      obtain ⟨e, he, rfl⟩ := Option.map_eq_some_iff.1 hx
      have hs := sumF_take (fun e : PT × PT => e.1.x * e.2.y - e.2.x * e.1.y) he
      have hm := edges_mem (List.mem_of_getElem? he)
      obtain ⟨⟨a1, a2⟩, a3, a4⟩ := hnr _ hm.1
      obtain ⟨⟨c1, c2⟩, c3, c4⟩ := hnr _ hm.2
      have m1 := mul_abs (a := e.1.x) (b := e.2.y) (A := 1048576) (B := 1048576) (by omega) (by omega)
      have m2 := mul_abs (a := e.2.x) (b := e.1.y) (A := 1048576) (B := 1048576) (by omega) (by omega)
      simp only [Int.reduceMul, Int.reduceNeg] at m1 m2
      have hsb : -1000000000000000 ≤ sumF (fun e : PT × PT => e.1.x * e.2.y - e.2.x * e.1.y) ((edgesP l).take k) ∧ sumF (fun e : PT × PT => e.1.x * e.2.y - e.2.x * e.1.y) ((edgesP l).take k) ≤ 1000000000000000 := by
        have := sumF_bd (f := fun e : PT × PT => e.1.x * e.2.y - e.2.x * e.1.y) (B := 2199023255552) (by omega) (l := (edgesP l).take k) fun e he => tw_bd (hnr _ (edges_mem (List.mem_of_mem_take he)).1) (hnr _ (edges_mem (List.mem_of_mem_take he)).2)
        have hl2 : ((edgesP l).take k).length ≤ 256 := by rw [List.length_take]; omega
        omega
      rw [hs]
      clear hs it hx he hm hnr
      generalize sumF (fun e : PT × PT => e.1.x * e.2.y - e.2.x * e.1.y) ((edgesP l).take k) = N0 at *
      obtain ⟨p, q⟩ := e
      dsimp only at *
      show W _ _ _ _ ⟨27, (12, .agg [.val (.int .i64 q.x), .val (.int .i64 q.y)]) :: (11, .agg [.val (.int .i64 p.x), .val (.int .i64 p.y)]) :: _, _⟩
      (repeat' (first | (refine iS ?_; refine iMu ?_; refine S.mapU ?_) | refine svz ⟨fun b hq => ?_⟩ | refine sv1 ?_ | refine svs ⟨?_⟩ | refine svu ⟨fun u => ?_⟩ | (refine svg (fun hg => ?_) (fun hg => ?_) <;> try (exfalso; first | omega | contradiction)) | (refine svc (fun hc => ?_) (fun hc => ?_) <;> try (exfalso; first | omega | contradiction)) | refine sv2 ?_ | refine svh (fun hb => ?_) (fun hb => ?_) | refine svb (fun b => ?_) | refine sva ?_ | refine sv3 ?_))
      exact ⟨.box b3 _ 3 :: h', (by repeat (first | exact LeH.refl _ | exact LeH.nil _ | refine LeH.cons (by (fail_if_success (apply tkG)); (repeat (first | exact Tk.here | apply Tk.there)); first | done | fail) ?_ | refine LeH.boxw (by (fail_if_success (apply tkG)); (repeat (first | exact Tk.here | apply Tk.there)); first | done | fail) (by (repeat (first | exact Wk.refl _ | exact Wk.nilr _ | exact Wk.nilm | apply Wk.aggc | apply Wk.tupc | exact Wk.aggn | exact Wk.tupn)); first | done | fail) ?_ | refine LeH.skip ?_)), rfl⟩
    · rintro hh rfl
      rw [List.length_map, List.take_length]
      show InBlock _ _ _ ⟨_, _, .box g1 [.ro 2 (l.map PT.enc)] 24 :: .box b3 [.val (.int .i64 (twiceF l))] 3 :: h'⟩
      (repeat' (first | (refine iS ?_; refine iMu ?_; refine S.mapU ?_) | refine svz ⟨fun b hq => ?_⟩ | refine sv1 ?_ | refine svs ⟨?_⟩ | refine svu ⟨fun u => ?_⟩ | (refine svg (fun hg => ?_) (fun hg => ?_) <;> try (exfalso; first | omega | contradiction)) | (refine svc (fun hc => ?_) (fun hc => ?_) <;> try (exfalso; first | omega | contradiction)) | refine sv2 ?_ | refine svh (fun hb => ?_) (fun hb => ?_) | refine svb (fun b => ?_) | refine sva ?_ | refine sv3 ?_))
      exact fin_r (h' := h') ⟨rfl, rfl⟩
  · have hr2 : rightF l = false := by simpa using hr
    rw [if_neg hr]
    rw [hr2] at h1
    refine ACalls.intro Try.func16 rfl Try.ntmps16 Try.results16 (Nat.le_of_ble_eq_true rfl) ?_
    (repeat' (first | (refine iS ?_; refine iMu ?_; refine S.mapU ?_) | refine svz ⟨fun b hq => ?_⟩ | refine sv1 ?_ | refine svs ⟨?_⟩ | refine svu ⟨fun u => ?_⟩ | (refine svg (fun hg => ?_) (fun hg => ?_) <;> try (exfalso; first | omega | contradiction)) | (refine svc (fun hc => ?_) (fun hc => ?_) <;> try (exfalso; first | omega | contradiction)) | refine sv2 ?_ | refine svh (fun hb => ?_) (fun hb => ?_) | refine svb (fun b => ?_) | refine sva ?_ | refine sv3 ?_))
    refine S.call ?_; refine (h1 _).mono ?_; rintro r h' ⟨rfl, hh⟩; subst hh
    (repeat' (first | (refine iS ?_; refine iMu ?_; refine S.mapU ?_) | refine svz ⟨fun b hq => ?_⟩ | refine sv1 ?_ | refine svs ⟨?_⟩ | refine svu ⟨fun u => ?_⟩ | (refine svg (fun hg => ?_) (fun hg => ?_) <;> try (exfalso; first | omega | contradiction)) | (refine svc (fun hc => ?_) (fun hc => ?_) <;> try (exfalso; first | omega | contradiction)) | refine sv2 ?_ | refine svh (fun hb => ?_) (fun hb => ?_) | refine svb (fun b => ?_) | refine sva ?_ | refine sv3 ?_))
    exact fin_r (h' := h') ⟨rfl, rfl⟩
end Go.Proofs.Ytkeclfcjmdhcfaa
