/- poly.row: the places inside of a row. No condition. -/
import Derived.Test.YtkeclfcjmdhcfaaO8
import Derived.Test.YtkeclfcjmdhcfaaO5
import Derived.Test.YtkeclfcjmdhcfaaB13
namespace Go.Proofs.Ytkeclfcjmdhcfaa
open Go Go.VM Go.Sort
attribute [local irreducible] PurV Pur Step RL W D ACalls Then InBlock Fini
set_option linter.unusedVariables false
set_option linter.unusedSimpArgs false
set_option maxHeartbeats 20000000
instance : Inhabited (Int × Int) := ⟨(0, 0)⟩
def encQ (p : Int × Int) : AV := .agg [.val (.int .i64 p.1), .val (.int .i64 p.2)]
def valsQ (p : Int × Int) : List Value := [.int .i64 p.1, .int .i64 p.2]
def cmpQ (a b : Int × Int) : Int := cmpI a.1 b.1
theorem swoQ : SWO (Go.Proofs.ltOf cmpQ) where
  irrefl x := by unfold Go.Proofs.ltOf cmpQ; rw [decide_eq_false]; rw [cmpI_lt]; omega
  trans x y z h1 h2 := by unfold Go.Proofs.ltOf cmpQ at *; rw [decide_eq_true_iff, cmpI_lt] at *; omega
  ntrans x y z h1 h2 := by unfold Go.Proofs.ltOf cmpQ at *; rw [decide_eq_false_iff_not, cmpI_lt] at *; omega
theorem ps_agg (w : World) : (isAgg 70).run Try.prog w = .ok true w := Go.VM.run_isAgg (TVal.h (t := 70)) w
theorem ps_size (w : World) : (Go.sizeOf 70).run Try.prog w = .ok 2 w := Go.VM.run_sizeOf (TVal.h (t := 70)) w
theorem valsQ_one (r : Int × Int) : ∀ v ∈ valsQ r, v.oneCell' = true := by
  intro v hv
  unfold valsQ at hv
  simp only [List.mem_cons, List.not_mem_nil, or_false] at hv
  rcases hv with rfl | rfl <;> rfl
instance fun_row1 : TFun Try.prog 56 := ⟨by kernel_rfl⟩
set_option maxRecDepth 100000 in
theorem row1_c (p q : Int × Int) (h : Heap) : ACalls Try.prog 56 [encQ p, encQ q] h (fun r h' => r = .val (.int .i64 (cmpQ p q)) ∧ h' = h) := by
  unfold encQ cmpQ
  have cm := fun h => compare_c p.1 q.1 h
  generalize cmpI p.1 q.1 = n at *
  refine ACalls.intro Try.func56 rfl Try.ntmps56 Try.results56 (Nat.le_of_ble_eq_true rfl) ?_
  (repeat' (first | (refine iS ?_; refine iMu ?_; refine S.mapU ?_) | refine svz ⟨fun b hq => ?_⟩ | refine sv1 ?_ | refine svs ⟨?_⟩ | refine svu ⟨fun u => ?_⟩ | (refine svg (fun hg => ?_) (fun hg => ?_) <;> try (exfalso; first | omega | contradiction)) | (refine svc (fun hc => ?_) (fun hc => ?_) <;> try (exfalso; first | omega | contradiction)) | refine sv2 ?_ | refine svh (fun hb => ?_) (fun hb => ?_) | refine svb (fun b => ?_) | refine sva ?_ | refine sv3 ?_))
  refine S.call ?_; refine (cm _).mono ?_; rintro r h' ⟨rfl, hh⟩; subst hh
  (repeat' (first | (refine iS ?_; refine iMu ?_; refine S.mapU ?_) | refine svz ⟨fun b hq => ?_⟩ | refine sv1 ?_ | refine svs ⟨?_⟩ | refine svu ⟨fun u => ?_⟩ | (refine svg (fun hg => ?_) (fun hg => ?_) <;> try (exfalso; first | omega | contradiction)) | (refine svc (fun hc => ?_) (fun hc => ?_) <;> try (exfalso; first | omega | contradiction)) | refine sv2 ?_ | refine svh (fun hb => ?_) (fun hb => ?_) | refine svb (fun b => ?_) | refine sva ?_ | refine sv3 ?_))
  exact fin_r (h' := _) ⟨rfl, rfl⟩
theorem sortP_c (l : List (Int × Int)) (v : Value) (e : Nat) (h : Heap) (hl : l.length < 4611686018427387904) :
    ACalls Try.prog 55 [.val v, .val (.func (.func 56) #[] #[])] (.own v 2 (l.map encQ) e :: h) (fun r h' => r = .tup [] ∧ ∃ l' : List (Int × Int), l'.Perm l ∧ l'.Pairwise (fun a b => a.1 ≤ b.1) ∧ h' = .own v 2 (l'.map encQ) e :: h) := by
  refine (sortFunc_c (enc := valsQ) Try.sortP (by omega) ps_agg ps_size (fun _ => rfl) valsQ_one cmpQ swoQ (fun a b => row1_c a b []) hl).mono ?_
  rintro r h' ⟨rfl, l', h1, h2, rfl⟩
  exact ⟨rfl, l', h1, h2.imp fun {a b} h => by unfold Go.Proofs.ltOf cmpQ at h; rw [decide_eq_false_iff_not, cmpI_lt] at h; omega, rfl⟩
theorem ps_take {l : List PT} {y : Int} {k : Nat} {e : PT × PT} (h : (edgesP l)[k]? = some e) : ((edgesP l).take (k + 1)).filterMap (fun e : PT × PT => passE e.1 e.2 y) = ((edgesP l).take k).filterMap (fun e : PT × PT => passE e.1 e.2 y) ++ (match passE e.1 e.2 y with | some p => [p] | none => []) := by
  rw [List.take_add_one, h, List.filterMap_append]
  congr 1
  cases hh : passE e.1 e.2 y with
  | none => simp [hh]
  | some p => simp [hh]
set_option maxRecDepth 100000 in
theorem row_c (rule y lo hi : Int) (l : List PT) (h : Heap) (hl : l.length ≤ 256) (hnr : ∀ p ∈ l, p.near) (hy : nearI y) (hlo : -1048576 ≤ lo) (hhi : hi ≤ 1048576) (hx : ∀ q ∈ l, lo ≤ q.x ∧ q.x ≤ hi) :
    ACalls Try.prog 38 [.val (.int .i64 (rule)), .val (.int .i64 (y)), .ro 2 (l.map PT.enc)] h (fun r h' => ∃ v R, r = .val v ∧ RowF rule y lo hi l R ∧ h' = .own v 4 (R.map RC.enc) 60 :: h) := by
  have h2 := fun h => edges_c l h
  have hpl := ps_len l y
  refine ACalls.intro Try.func38 rfl Try.ntmps38 Try.results38 (Nat.le_of_ble_eq_true rfl) ?_
  (repeat' (first | (refine iS ?_; refine iMu ?_; refine S.mapU ?_) | refine svz ⟨fun b hq => ?_⟩ | refine sv1 ?_ | refine svs ⟨?_⟩ | refine svu ⟨fun u => ?_⟩ | (refine svg (fun hg => ?_) (fun hg => ?_) <;> try (exfalso; first | omega | contradiction)) | (refine svc (fun hc => ?_) (fun hc => ?_) <;> try (exfalso; first | omega | contradiction)) | refine sv2 ?_ | refine svh (fun hb => ?_) (fun hb => ?_) | refine svb (fun b => ?_) | refine sva ?_ | refine sv3 ?_))
  rename_i b4
  revert b; intro b7
  refine S.call ?_
  refine (h2 _).mono ?_
  rintro r' h' ⟨g1, rfl, hh⟩; subst hh
  (repeat' (first | (refine iS ?_; refine iMu ?_; refine S.mapU ?_) | refine svz ⟨fun b hq => ?_⟩ | refine sv1 ?_ | refine svs ⟨?_⟩ | refine svu ⟨fun u => ?_⟩ | (refine svg (fun hg => ?_) (fun hg => ?_) <;> try (exfalso; first | omega | contradiction)) | (refine svc (fun hc => ?_) (fun hc => ?_) <;> try (exfalso; first | omega | contradiction)) | refine sv2 ?_ | refine svh (fun hb => ?_) (fun hb => ?_) | refine svb (fun b => ?_) | refine sva ?_ | refine sv3 ?_))
  have it := edges_iter l g1 (by omega)
  refine W.nil_ 2 70 ?_
  refine W.le (s' := ⟨120, [(19, .clo (.func 52) [.val (.pointer (some ⟨g1, 0, none⟩))]), (7, .val (.pointer (some ⟨b7, 0, none⟩))), (4, .val (.pointer (some ⟨b4, 0, none⟩))), (0, .val (.int .i64 (rule)))], .box g1 [.ro 2 (l.map PT.enc)] 24 :: .own (.slice none 0 0) 2 ((([] : List (Int × Int))).map encQ) 70 :: .box b7 [.val (.slice none 0 0)] 94 :: .box b4 [.val (.int .i64 (y))] 3 :: h⟩) ⟨rfl, (by repeat (first | exact LeT.nil | refine LeT.cons rfl ?_ | refine LeT.consw rfl (by (repeat (first | exact Wk.refl _ | exact Wk.nilr _ | exact Wk.nilm | apply Wk.aggc | apply Wk.tupc | exact Wk.aggn | exact Wk.tupn)); first | done | fail) ?_)), (by repeat (first | exact LeH.refl _ | exact LeH.nil _ | refine LeH.cons (by (fail_if_success (apply tkG)); (repeat (first | exact Tk.here | apply Tk.there)); first | done | fail) ?_ | refine LeH.boxw (by (fail_if_success (apply tkG)); (repeat (first | exact Tk.here | apply Tk.there)); first | done | fail) (by (repeat (first | exact Wk.refl _ | exact Wk.nilr _ | exact Wk.nilm | apply Wk.aggc | apply Wk.tupc | exact Wk.aggn | exact Wk.tupn)); first | done | fail) ?_ | refine LeH.skip ?_))⟩ ?_
  refine W.range (fun k hh => ∃ v, hh = .own v 2 (((((edgesP l).take k).filterMap (fun e : PT × PT => passE e.1 e.2 y))).map encQ) 70 :: .box b7 [.val v] 94 :: .box b4 [.val (.int .i64 (y))] 3 :: h) (fun c hh => False) it (h0 := .own (.slice none 0 0) 2 ((([] : List (Int × Int))).map encQ) 70 :: .box b7 [.val (.slice none 0 0)] 94 :: .box b4 [.val (.int .i64 (y))] 3 :: h) ⟨_, rfl⟩ ?_ ?_ (fun c h hf => hf.elim) (fun x hx => by obtain ⟨s, _, rfl⟩ := List.mem_map.1 hx; rfl) (by repeat (first | exact LeH.refl _ | exact LeH.nil _ | refine LeH.cons (by (fail_if_success (apply tkG)); (repeat (first | exact Tk.here | apply Tk.there)); first | done | fail) ?_ | refine LeH.boxw (by (fail_if_success (apply tkG)); (repeat (first | exact Tk.here | apply Tk.there)); first | done | fail) (by (repeat (first | exact Wk.refl _ | exact Wk.nilr _ | exact Wk.nilm | apply Wk.aggc | apply Wk.tupc | exact Wk.aggn | exact Wk.tupn)); first | done | fail) ?_ | refine LeH.skip ?_))
  · rintro lp k w hh ⟨v, rfl⟩ hw
    rw [List.getElem?_map] at hw
    obtain ⟨e, he, rfl⟩ := Option.map_eq_some_iff.1 hw
    have hs := ps_take (y := y) he
    have hm := edges_mem (List.mem_of_getElem? he)
    have hp := fun h => passes_c e.1 e.2 y h (hnr _ hm.1) (hnr _ hm.2) hy
    have hkl : (((edgesP l).take k).filterMap (fun e : PT × PT => passE e.1 e.2 y)).length ≤ 256 := Nat.le_trans (List.length_filterMap_le _ _) (by rw [List.length_take, edges_len]; omega)
    rw [hs]
    clear hs it hw he hm hnr hx hpl
    generalize ((edgesP l).take k).filterMap (fun e : PT × PT => passE e.1 e.2 y) = E0 at *
    obtain ⟨p, q⟩ := e
    dsimp only at *
    generalize passE p q y = o at *
    rw [pt_enc, pt_enc] at *
    show W _ _ _ _ ⟨120, (21, .agg [.val (.int .i64 q.x), .val (.int .i64 q.y)]) :: (20, .agg [.val (.int .i64 p.x), .val (.int .i64 p.y)]) :: _, _⟩
    cases o with
    | none =>
      (repeat' (first | (refine iS ?_; refine iMu ?_; refine S.mapU ?_) | refine svz ⟨fun b hq => ?_⟩ | refine sv1 ?_ | refine svs ⟨?_⟩ | refine svu ⟨fun u => ?_⟩ | (refine svg (fun hg => ?_) (fun hg => ?_) <;> try (exfalso; first | omega | contradiction)) | (refine svc (fun hc => ?_) (fun hc => ?_) <;> try (exfalso; first | omega | contradiction)) | refine sv2 ?_ | refine svh (fun hb => ?_) (fun hb => ?_) | refine svb (fun b => ?_) | refine sva ?_ | refine sv3 ?_))
      refine S.call ?_; refine (hp _).mono ?_; rintro r h' ⟨rfl, hh⟩; subst hh
      (repeat' (first | (refine iS ?_; refine iMu ?_; refine S.mapU ?_) | refine svz ⟨fun b hq => ?_⟩ | refine sv1 ?_ | refine svs ⟨?_⟩ | refine svu ⟨fun u => ?_⟩ | (refine svg (fun hg => ?_) (fun hg => ?_) <;> try (exfalso; first | omega | contradiction)) | (refine svc (fun hc => ?_) (fun hc => ?_) <;> try (exfalso; first | omega | contradiction)) | refine sv2 ?_ | refine svh (fun hb => ?_) (fun hb => ?_) | refine svb (fun b => ?_) | refine sva ?_ | refine sv3 ?_))
      rw [List.append_nil]
      exact ⟨.own v 2 ((E0).map encQ) 70 :: .box b7 [.val v] 94 :: .box b4 [.val (.int .i64 (y))] 3 :: h, (by repeat (first | exact LeH.refl _ | exact LeH.nil _ | refine LeH.cons (by (fail_if_success (apply tkG)); (repeat (first | exact Tk.here | apply Tk.there)); first | done | fail) ?_ | refine LeH.boxw (by (fail_if_success (apply tkG)); (repeat (first | exact Tk.here | apply Tk.there)); first | done | fail) (by (repeat (first | exact Wk.refl _ | exact Wk.nilr _ | exact Wk.nilm | apply Wk.aggc | apply Wk.tupc | exact Wk.aggn | exact Wk.tupn)); first | done | fail) ?_ | refine LeH.skip ?_)), _, rfl⟩
    | some o =>
      (repeat' (first | (refine iS ?_; refine iMu ?_; refine S.mapU ?_) | refine svz ⟨fun b hq => ?_⟩ | refine sv1 ?_ | refine svs ⟨?_⟩ | refine svu ⟨fun u => ?_⟩ | (refine svg (fun hg => ?_) (fun hg => ?_) <;> try (exfalso; first | omega | contradiction)) | (refine svc (fun hc => ?_) (fun hc => ?_) <;> try (exfalso; first | omega | contradiction)) | refine sv2 ?_ | refine svh (fun hb => ?_) (fun hb => ?_) | refine svb (fun b => ?_) | refine sva ?_ | refine sv3 ?_))
      refine S.call ?_; refine (hp _).mono ?_; rintro r h' ⟨rfl, hh⟩; subst hh
      (repeat' (first | (refine iS ?_; refine iMu ?_; refine S.mapU ?_) | refine svz ⟨fun b hq => ?_⟩ | refine sv1 ?_ | refine svs ⟨?_⟩ | refine svu ⟨fun u => ?_⟩ | (refine svg (fun hg => ?_) (fun hg => ?_) <;> try (exfalso; first | omega | contradiction)) | (refine svc (fun hc => ?_) (fun hc => ?_) <;> try (exfalso; first | omega | contradiction)) | refine sv2 ?_ | refine svh (fun hb => ?_) (fun hb => ?_) | refine svb (fun b => ?_) | refine sva ?_ | refine sv3 ?_))
      rw [List.map_append]
      exact ⟨.own u 2 (E0.map encQ ++ [encQ o]) 70 :: .box b7 [.val u] 94 :: .box b4 [.val (.int .i64 (y))] 3 :: h, (by repeat (first | exact LeH.refl _ | exact LeH.nil _ | refine LeH.cons (by (fail_if_success (apply tkG)); (repeat (first | exact Tk.here | apply Tk.there)); first | done | fail) ?_ | refine LeH.boxw (by (fail_if_success (apply tkG)); (repeat (first | exact Tk.here | apply Tk.there)); first | done | fail) (by (repeat (first | exact Wk.refl _ | exact Wk.nilr _ | exact Wk.nilm | apply Wk.aggc | apply Wk.tupc | exact Wk.aggn | exact Wk.tupn)); first | done | fail) ?_ | refine LeH.skip ?_)), _, rfl⟩
  · rintro hh ⟨v, rfl⟩
    rw [List.length_map, List.take_length]
    show InBlock _ _ _ ⟨_, _, .box g1 [.ro 2 (l.map PT.enc)] 24 :: .own v 2 (((psF l y)).map encQ) 70 :: .box b7 [.val v] 94 :: .box b4 [.val (.int .i64 (y))] 3 :: h⟩
    (repeat' (first | (refine iS ?_; refine iMu ?_; refine S.mapU ?_) | refine svz ⟨fun b hq => ?_⟩ | refine sv1 ?_ | refine svs ⟨?_⟩ | refine svu ⟨fun u => ?_⟩ | (refine svg (fun hg => ?_) (fun hg => ?_) <;> try (exfalso; first | omega | contradiction)) | (refine svc (fun hc => ?_) (fun hc => ?_) <;> try (exfalso; first | omega | contradiction)) | refine sv2 ?_ | refine svh (fun hb => ?_) (fun hb => ?_) | refine svb (fun b => ?_) | refine sva ?_ | refine sv3 ?_))
    refine Step.le (s' := ⟨120, [(34, .val v), (7, .val (.pointer (some ⟨b7, 0, none⟩))), (4, .val (.pointer (some ⟨b4, 0, none⟩))), (0, .val (.int .i64 (rule)))], .own v 2 (((psF l y)).map encQ) 70 :: .box b7 [.val v] 94 :: .box b4 [.val (.int .i64 (y))] 3 :: h⟩) ⟨rfl, (by repeat (first | exact LeT.nil | refine LeT.cons rfl ?_ | refine LeT.consw rfl (by (repeat (first | exact Wk.refl _ | exact Wk.nilr _ | exact Wk.nilm | apply Wk.aggc | apply Wk.tupc | exact Wk.aggn | exact Wk.tupn)); first | done | fail) ?_)), (by repeat (first | exact LeH.refl _ | exact LeH.nil _ | refine LeH.cons (by (fail_if_success (apply tkG)); (repeat (first | exact Tk.here | apply Tk.there)); first | done | fail) ?_ | refine LeH.boxw (by (fail_if_success (apply tkG)); (repeat (first | exact Tk.here | apply Tk.there)); first | done | fail) (by (repeat (first | exact Wk.refl _ | exact Wk.nilr _ | exact Wk.nilm | apply Wk.aggc | apply Wk.tupc | exact Wk.aggn | exact Wk.tupn)); first | done | fail) ?_ | refine LeH.skip ?_))⟩ ?_
    refine S.call ?_
    refine (sortP_c (psF l y) v _ _ (by omega)).mono ?_
    rintro r h' ⟨rfl, qs, hq1, hq2, hh⟩; subst hh
    (repeat' (first | (refine iS ?_; refine iMu ?_; refine S.mapU ?_) | refine svz ⟨fun b hq => ?_⟩ | refine sv1 ?_ | refine svs ⟨?_⟩ | refine svu ⟨fun u => ?_⟩ | (refine svg (fun hg => ?_) (fun hg => ?_) <;> try (exfalso; first | omega | contradiction)) | (refine svc (fun hc => ?_) (fun hc => ?_) <;> try (exfalso; first | omega | contradiction)) | refine sv2 ?_ | refine svh (fun hb => ?_) (fun hb => ?_) | refine svb (fun b => ?_) | refine sva ?_ | refine sv3 ?_))
    have hql : qs.length ≤ 256 := by rw [hq1.length_eq]; omega
    have hq0 : sumF (fun p : Int × Int => p.2) qs = 0 := by rw [sumF_perm hq1]; exact ps_zero l y
    have hqb : ∀ p ∈ qs, lo ≤ p.1 ∧ p.1 ≤ hi := fun p hp => ps_in hx (hq1.mem_iff.1 hp)
    have hqw : ∀ p ∈ qs, p.2 = 1 ∨ p.2 = -1 := fun p hp => ps_way (hq1.mem_iff.1 hp)
    refine W.nil_ 4 60 ?_
    refine W.loop (J := fun q : Nat × Int × List RC × Value => ⟨120, [(38, .val (.int .i64 (q.1 : Int))), (37, .val (.int .i64 (qs.length : Int))), (36, .val v), (13, .val (.int .i64 (q.2.1))), (12, .val q.2.2.2), (7, .val (.pointer (some ⟨b7, 0, none⟩))), (4, .val (.pointer (some ⟨b4, 0, none⟩))), (0, .val (.int .i64 (rule)))], .own q.2.2.2 4 (q.2.2.1.map RC.enc) 60 :: .own v 2 ((qs).map encQ) 70 :: .box b7 [.val v] 94 :: .box b4 [.val (.int .i64 (y))] 3 :: h⟩)
      (Φ := fun q => RowI rule y lo hi qs q.1 q.2.2.1 q.2.1) (μ := fun q => qs.length - q.1) (0, 0, [], .slice none 0 0) ⟨rfl, (by repeat (first | exact LeT.nil | refine LeT.cons rfl ?_ | refine LeT.consw rfl (by (repeat (first | exact Wk.refl _ | exact Wk.nilr _ | exact Wk.nilm | apply Wk.aggc | apply Wk.tupc | exact Wk.aggn | exact Wk.tupn)); first | done | fail) ?_)), (by repeat (first | exact LeH.refl _ | exact LeH.nil _ | refine LeH.cons (by (fail_if_success (apply tkG)); (repeat (first | exact Tk.here | apply Tk.there)); first | done | fail) ?_ | refine LeH.boxw (by (fail_if_success (apply tkG)); (repeat (first | exact Tk.here | apply Tk.there)); first | done | fail) (by (repeat (first | exact Wk.refl _ | exact Wk.nilr _ | exact Wk.nilm | apply Wk.aggc | apply Wk.tupc | exact Wk.aggn | exact Wk.tupn)); first | done | fail) ?_ | refine LeH.skip ?_))⟩ (rowI_0 hq2) ?_
    rintro ⟨i, t, R, vo⟩ hI
    dsimp only at hI ⊢
    have hil := hI.le
    rcases Nat.lt_or_ge i qs.length with hlt | hge
    · obtain ⟨p, hp⟩ : ∃ p, qs[i]? = some p := ⟨_, List.getElem?_eq_getElem hlt⟩
      have hpw := hqw p (List.mem_of_getElem? hp)
      have hpb := hqb p (List.mem_of_getElem? hp)
      have ht : -256 ≤ t ∧ t ≤ 256 := by
        have := sumF_bd (f := fun p : Int × Int => p.2) (B := 1) (by omega) (l := qs.take i) fun q hq => by have := hqw q (List.mem_of_mem_take hq); omega
        rw [← hI.t, List.length_take] at this
        omega
      have hRl : R.length ≤ 300 := by rcases hI.half with q | ⟨q, _⟩ <;> omega
      by_cases hend : i + 1 = qs.length
      · have hn := rowI_skip hq2 hp hI hq0 (.inl hend)
        clear hI it
        (repeat' (first | (refine iS ?_; refine iMu ?_; refine S.mapU ?_) | refine svz ⟨fun b hq => ?_⟩ | refine sv1 ?_ | refine svs ⟨?_⟩ | refine svu ⟨fun u => ?_⟩ | (refine svg (fun hg => ?_) (fun hg => ?_) <;> try (exfalso; first | omega | contradiction)) | (refine svc (fun hc => ?_) (fun hc => ?_) <;> try (exfalso; first | omega | contradiction)) | refine sv2 ?_ | refine svh (fun hb => ?_) (fun hb => ?_) | refine svb (fun b => ?_) | refine sva ?_ | refine sv3 ?_))
        exact ⟨(i + 1, t + p.2, R, vo), hn, ⟨rfl, (by repeat (first | exact LeT.nil | refine LeT.cons rfl ?_ | refine LeT.consw rfl (by (repeat (first | exact Wk.refl _ | exact Wk.nilr _ | exact Wk.nilm | apply Wk.aggc | apply Wk.tupc | exact Wk.aggn | exact Wk.tupn)); first | done | fail) ?_)), (by repeat (first | exact LeH.refl _ | exact LeH.nil _ | refine LeH.cons (by (fail_if_success (apply tkG)); (repeat (first | exact Tk.here | apply Tk.there)); first | done | fail) ?_ | refine LeH.boxw (by (fail_if_success (apply tkG)); (repeat (first | exact Tk.here | apply Tk.there)); first | done | fail) (by (repeat (first | exact Wk.refl _ | exact Wk.nilr _ | exact Wk.nilm | apply Wk.aggc | apply Wk.tupc | exact Wk.aggn | exact Wk.tupn)); first | done | fail) ?_ | refine LeH.skip ?_))⟩, by dsimp only; omega⟩
      · obtain ⟨q, hq⟩ : ∃ q, qs[i + 1]? = some q := ⟨_, List.getElem?_eq_getElem (by omega)⟩
        have hqt : qs[((i : Int) + 1).toNat]? = some q := by rw [show ((i : Int) + 1).toNat = i + 1 by omega]; exact hq
        have hqb2 := hqb q (List.mem_of_getElem? hq)
        by_cases heq : q.1 = p.1
        · have hn := rowI_skip hq2 hp hI hq0 (.inr (.inl ⟨q, hq, heq⟩))
          clear hI it
          (repeat' (first | (refine iS ?_; refine iMu ?_; refine S.mapU ?_) | refine svz ⟨fun b hq => ?_⟩ | refine sv1 ?_ | refine svs ⟨?_⟩ | refine svu ⟨fun u => ?_⟩ | (refine svg (fun hg => ?_) (fun hg => ?_) <;> try (exfalso; first | omega | contradiction)) | (refine svc (fun hc => ?_) (fun hc => ?_) <;> try (exfalso; first | omega | contradiction)) | refine sv2 ?_ | refine svh (fun hb => ?_) (fun hb => ?_) | refine svb (fun b => ?_) | refine sva ?_ | refine sv3 ?_))
          exact ⟨(i + 1, t + p.2, R, vo), hn, ⟨rfl, (by repeat (first | exact LeT.nil | refine LeT.cons rfl ?_ | refine LeT.consw rfl (by (repeat (first | exact Wk.refl _ | exact Wk.nilr _ | exact Wk.nilm | apply Wk.aggc | apply Wk.tupc | exact Wk.aggn | exact Wk.tupn)); first | done | fail) ?_)), (by repeat (first | exact LeH.refl _ | exact LeH.nil _ | refine LeH.cons (by (fail_if_success (apply tkG)); (repeat (first | exact Tk.here | apply Tk.there)); first | done | fail) ?_ | refine LeH.boxw (by (fail_if_success (apply tkG)); (repeat (first | exact Tk.here | apply Tk.there)); first | done | fail) (by (repeat (first | exact Wk.refl _ | exact Wk.nilr _ | exact Wk.nilm | apply Wk.aggc | apply Wk.tupc | exact Wk.aggn | exact Wk.tupn)); first | done | fail) ?_ | refine LeH.skip ?_))⟩, by dsimp only; omega⟩
        · have hin := fun h => inside_c rule (t + p.2) h
          cases hz : insF rule (t + p.2) with
          | false =>
            have hn := rowI_skip hq2 hp hI hq0 (.inr (.inr hz))
            rw [hz] at hin
            clear hI it
            (repeat' (first | (refine iS ?_; refine iMu ?_; refine S.mapU ?_) | refine svz ⟨fun b hq => ?_⟩ | refine sv1 ?_ | refine svs ⟨?_⟩ | refine svu ⟨fun u => ?_⟩ | (refine svg (fun hg => ?_) (fun hg => ?_) <;> try (exfalso; first | omega | contradiction)) | (refine svc (fun hc => ?_) (fun hc => ?_) <;> try (exfalso; first | omega | contradiction)) | refine sv2 ?_ | refine svh (fun hb => ?_) (fun hb => ?_) | refine svb (fun b => ?_) | refine sva ?_ | refine sv3 ?_))
            refine R2.C (hin _) ?_
            (repeat' (first | (refine iS ?_; refine iMu ?_; refine S.mapU ?_) | refine svz ⟨fun b hq => ?_⟩ | refine sv1 ?_ | refine svs ⟨?_⟩ | refine svu ⟨fun u => ?_⟩ | (refine svg (fun hg => ?_) (fun hg => ?_) <;> try (exfalso; first | omega | contradiction)) | (refine svc (fun hc => ?_) (fun hc => ?_) <;> try (exfalso; first | omega | contradiction)) | refine sv2 ?_ | refine svh (fun hb => ?_) (fun hb => ?_) | refine svb (fun b => ?_) | refine sva ?_ | refine sv3 ?_))
            exact ⟨(i + 1, t + p.2, R, vo), hn, ⟨rfl, (by repeat (first | exact LeT.nil | refine LeT.cons rfl ?_ | refine LeT.consw rfl (by (repeat (first | exact Wk.refl _ | exact Wk.nilr _ | exact Wk.nilm | apply Wk.aggc | apply Wk.tupc | exact Wk.aggn | exact Wk.tupn)); first | done | fail) ?_)), (by repeat (first | exact LeH.refl _ | exact LeH.nil _ | refine LeH.cons (by (fail_if_success (apply tkG)); (repeat (first | exact Tk.here | apply Tk.there)); first | done | fail) ?_ | refine LeH.boxw (by (fail_if_success (apply tkG)); (repeat (first | exact Tk.here | apply Tk.there)); first | done | fail) (by (repeat (first | exact Wk.refl _ | exact Wk.nilr _ | exact Wk.nilm | apply Wk.aggc | apply Wk.tupc | exact Wk.aggn | exact Wk.tupn)); first | done | fail) ?_ | refine LeH.skip ?_))⟩, by dsimp only; omega⟩
          | true =>
            have hn := rowI_add hq2 hp hq hI heq hz hqb
            have hRo := hI.ok.ok
            rw [hz] at hin
            clear hI it
            rcases Nat.eq_zero_or_pos R.length with h0 | h0
            · have : R = [] := List.length_eq_zero_iff.1 h0
              subst this
              rw [show addR [] p.1 q.1 y = [] ++ [⟨p.1, y, q.1 - p.1, 1⟩] from rfl] at hn
              (repeat' (first | (refine iS ?_; refine iMu ?_; refine S.mapU ?_) | refine svz ⟨fun b hq => ?_⟩ | refine sv1 ?_ | refine svs ⟨?_⟩ | refine svu ⟨fun u => ?_⟩ | (refine svg (fun hg => ?_) (fun hg => ?_) <;> try (exfalso; first | omega | contradiction)) | (refine svc (fun hc => ?_) (fun hc => ?_) <;> try (exfalso; first | omega | contradiction)) | refine sv2 ?_ | refine svh (fun hb => ?_) (fun hb => ?_) | refine svb (fun b => ?_) | refine sva ?_ | refine sv3 ?_))
              refine R2.C (hin _) ?_
              (repeat' (first | (refine iS ?_; refine iMu ?_; refine S.mapU ?_) | refine svz ⟨fun b hq => ?_⟩ | refine sv1 ?_ | refine svs ⟨?_⟩ | refine svu ⟨fun u => ?_⟩ | (refine svg (fun hg => ?_) (fun hg => ?_) <;> try (exfalso; first | omega | contradiction)) | (refine svc (fun hc => ?_) (fun hc => ?_) <;> try (exfalso; first | omega | contradiction)) | refine sv2 ?_ | refine svh (fun hb => ?_) (fun hb => ?_) | refine svb (fun b => ?_) | refine sva ?_ | refine sv3 ?_))
              exact ⟨(i + 1, t + p.2, _, u), hn, by dsimp only; rw [List.map_append]; exact ⟨rfl, (by repeat (first | exact LeT.nil | refine LeT.cons rfl ?_ | refine LeT.consw rfl (by (repeat (first | exact Wk.refl _ | exact Wk.nilr _ | exact Wk.nilm | apply Wk.aggc | apply Wk.tupc | exact Wk.aggn | exact Wk.tupn)); first | done | fail) ?_)), (by repeat (first | exact LeH.refl _ | exact LeH.nil _ | refine LeH.cons (by (fail_if_success (apply tkG)); (repeat (first | exact Tk.here | apply Tk.there)); first | done | fail) ?_ | refine LeH.boxw (by (fail_if_success (apply tkG)); (repeat (first | exact Tk.here | apply Tk.there)); first | done | fail) (by (repeat (first | exact Wk.refl _ | exact Wk.nilr _ | exact Wk.nilm | apply Wk.aggc | apply Wk.tupc | exact Wk.aggn | exact Wk.tupn)); first | done | fail) ?_ | refine LeH.skip ?_))⟩, by dsimp only; omega⟩
            · have hltR : ((R.length : Int) - 1).toNat < R.length := by omega
              have hrm := hRo (R[((R.length : Int) - 1).toNat]'hltR) (List.getElem_mem hltR)
              have hgl : R.getLast? = some (R[((R.length : Int) - 1).toNat]'hltR) := by
                rw [List.getLast?_eq_getElem?, ← List.getElem?_eq_getElem hltR]
                congr 1; omega
              have e1 : R.length - 1 = ((R.length : Int) - 1).toNat := by omega
              have hst2 : addR R p.1 q.1 y = if (R[((R.length : Int) - 1).toNat]'hltR).x + (R[((R.length : Int) - 1).toNat]'hltR).w = p.1 then R.set ((R.length : Int) - 1).toNat ⟨(R[((R.length : Int) - 1).toNat]'hltR).x, (R[((R.length : Int) - 1).toNat]'hltR).y, (R[((R.length : Int) - 1).toNat]'hltR).w + (q.1 - p.1), (R[((R.length : Int) - 1).toNat]'hltR).h⟩ else R ++ [⟨p.1, y, q.1 - p.1, 1⟩] := by
                unfold addR; rw [hgl, e1]
              by_cases c1 : (R[((R.length : Int) - 1).toNat]'hltR).x + (R[((R.length : Int) - 1).toNat]'hltR).w = p.1
              · rw [if_pos c1] at hst2
                rw [hst2] at hn
                (repeat' (first | (refine iS ?_; refine iMu ?_; refine S.mapU ?_) | refine svz ⟨fun b hq => ?_⟩ | refine sv1 ?_ | refine svs ⟨?_⟩ | refine svu ⟨fun u => ?_⟩ | (refine svg (fun hg => ?_) (fun hg => ?_) <;> try (exfalso; first | omega | contradiction)) | (refine svc (fun hc => ?_) (fun hc => ?_) <;> try (exfalso; first | omega | contradiction)) | refine sv2 ?_ | refine svh (fun hb => ?_) (fun hb => ?_) | refine svb (fun b => ?_) | refine sva ?_ | refine sv3 ?_))
                refine R2.C (hin _) ?_
                (repeat' (first | (refine iS ?_; refine iMu ?_; refine S.mapU ?_) | refine svz ⟨fun b hq => ?_⟩ | refine sv1 ?_ | refine svs ⟨?_⟩ | refine svu ⟨fun u => ?_⟩ | (refine svg (fun hg => ?_) (fun hg => ?_) <;> try (exfalso; first | omega | contradiction)) | (refine svc (fun hc => ?_) (fun hc => ?_) <;> try (exfalso; first | omega | contradiction)) | refine sv2 ?_ | refine svh (fun hb => ?_) (fun hb => ?_) | refine svb (fun b => ?_) | refine sva ?_ | refine sv3 ?_))
                exact ⟨(i + 1, t + p.2, _, vo), hn, by dsimp only; rw [List.map_set]; exact ⟨rfl, (by repeat (first | exact LeT.nil | refine LeT.cons rfl ?_ | refine LeT.consw rfl (by (repeat (first | exact Wk.refl _ | exact Wk.nilr _ | exact Wk.nilm | apply Wk.aggc | apply Wk.tupc | exact Wk.aggn | exact Wk.tupn)); first | done | fail) ?_)), (by repeat (first | exact LeH.refl _ | exact LeH.nil _ | refine LeH.cons (by (fail_if_success (apply tkG)); (repeat (first | exact Tk.here | apply Tk.there)); first | done | fail) ?_ | refine LeH.boxw (by (fail_if_success (apply tkG)); (repeat (first | exact Tk.here | apply Tk.there)); first | done | fail) (by (repeat (first | exact Wk.refl _ | exact Wk.nilr _ | exact Wk.nilm | apply Wk.aggc | apply Wk.tupc | exact Wk.aggn | exact Wk.tupn)); first | done | fail) ?_ | refine LeH.skip ?_))⟩, by dsimp only; omega⟩
              · rw [if_neg c1] at hst2
                rw [hst2] at hn
                (repeat' (first | (refine iS ?_; refine iMu ?_; refine S.mapU ?_) | refine svz ⟨fun b hq => ?_⟩ | refine sv1 ?_ | refine svs ⟨?_⟩ | refine svu ⟨fun u => ?_⟩ | (refine svg (fun hg => ?_) (fun hg => ?_) <;> try (exfalso; first | omega | contradiction)) | (refine svc (fun hc => ?_) (fun hc => ?_) <;> try (exfalso; first | omega | contradiction)) | refine sv2 ?_ | refine svh (fun hb => ?_) (fun hb => ?_) | refine svb (fun b => ?_) | refine sva ?_ | refine sv3 ?_))
                refine R2.C (hin _) ?_
                (repeat' (first | (refine iS ?_; refine iMu ?_; refine S.mapU ?_) | refine svz ⟨fun b hq => ?_⟩ | refine sv1 ?_ | refine svs ⟨?_⟩ | refine svu ⟨fun u => ?_⟩ | (refine svg (fun hg => ?_) (fun hg => ?_) <;> try (exfalso; first | omega | contradiction)) | (refine svc (fun hc => ?_) (fun hc => ?_) <;> try (exfalso; first | omega | contradiction)) | refine sv2 ?_ | refine svh (fun hb => ?_) (fun hb => ?_) | refine svb (fun b => ?_) | refine sva ?_ | refine sv3 ?_))
                exact ⟨(i + 1, t + p.2, _, u), hn, by dsimp only; rw [List.map_append]; exact ⟨rfl, (by repeat (first | exact LeT.nil | refine LeT.cons rfl ?_ | refine LeT.consw rfl (by (repeat (first | exact Wk.refl _ | exact Wk.nilr _ | exact Wk.nilm | apply Wk.aggc | apply Wk.tupc | exact Wk.aggn | exact Wk.tupn)); first | done | fail) ?_)), (by repeat (first | exact LeH.refl _ | exact LeH.nil _ | refine LeH.cons (by (fail_if_success (apply tkG)); (repeat (first | exact Tk.here | apply Tk.there)); first | done | fail) ?_ | refine LeH.boxw (by (fail_if_success (apply tkG)); (repeat (first | exact Tk.here | apply Tk.there)); first | done | fail) (by (repeat (first | exact Wk.refl _ | exact Wk.nilr _ | exact Wk.nilm | apply Wk.aggc | apply Wk.tupc | exact Wk.aggn | exact Wk.tupn)); first | done | fail) ?_ | refine LeH.skip ?_))⟩, by dsimp only; omega⟩
    · have e : i = qs.length := by omega
      subst e
      have hF := rowF_of hq1 hI
      (repeat' (first | (refine iS ?_; refine iMu ?_; refine S.mapU ?_) | refine svz ⟨fun b hq => ?_⟩ | refine sv1 ?_ | refine svs ⟨?_⟩ | refine svu ⟨fun u => ?_⟩ | (refine svg (fun hg => ?_) (fun hg => ?_) <;> try (exfalso; first | omega | contradiction)) | (refine svc (fun hc => ?_) (fun hc => ?_) <;> try (exfalso; first | omega | contradiction)) | refine sv2 ?_ | refine svh (fun hb => ?_) (fun hb => ?_) | refine svb (fun b => ?_) | refine sva ?_ | refine sv3 ?_))
      exact fin_r (h' := _) ⟨vo, R, rfl, hF, rfl⟩
end Go.Proofs.Ytkeclfcjmdhcfaa
