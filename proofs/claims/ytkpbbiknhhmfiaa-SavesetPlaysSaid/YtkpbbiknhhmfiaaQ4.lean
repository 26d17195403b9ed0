/- The reference's Has, Wrong, Sorted; same. No condition. -/
import Derived.Test.YtkpbbiknhhmfiaaQ3
namespace Go.Proofs.Ytkpbbiknhhmfiaa
open Go Go.VM
attribute [local irreducible] PurV Pur Step RL W D ACalls Then InBlock Fini
set_option linter.unusedVariables false
set_option linter.unusedSimpArgs false
set_option maxHeartbeats 20000000
set_option maxRecDepth 100000 in
theorem rhas_c (l : List Int) (x : Int) (h : Heap) : ACalls Try.prog 20 [.ro 1 (ints .u32 (l)), .val (.int .u32 (x))] h (fun r h' => r = .val (.bool (decide (x ∈ l))) ∧ h' = h) := by
  refine ACalls.intro Try.func20 rfl Try.ntmps20 Try.results20 (Nat.le_of_ble_eq_true rfl) ?_
  refine W.len 0 rfl (fun hl => ?_); simp only [ints, splice, List.length_map, List.length_append, List.length_cons, List.length_nil, List.length_take, List.length_drop, List.length_set, List.length_replicate] at hl
  (repeat' (first | (refine iS ?_; refine iMu ?_; refine S.mapU ?_) | refine svz ⟨fun b hq => ?_⟩ | refine sv1 ?_ | refine svs ⟨?_⟩ | refine svu ⟨fun u => ?_⟩ | (refine svg (fun hg => ?_) (fun hg => ?_) <;> try (exfalso; first | omega | contradiction)) | (refine svc (fun hc => ?_) (fun hc => ?_) <;> try (exfalso; first | omega | contradiction)) | refine sv2 ?_ | refine svh (fun hb => ?_) (fun hb => ?_) | refine svb (fun b => ?_) | refine sva ?_ | refine sv3 ?_))
  refine W.loop (J := fun i : Nat => ⟨17, [(9, .val (.int .i64 ((i : Nat)))), (8, .val (.int .i64 ((l.length : Nat)))), (7, .ro 1 (ints .u32 (l))), (1, .val (.int .u32 (x))), (4, .val (.bool false))], h⟩)
    (Φ := fun i => i ≤ l.length ∧ x ∉ l.take i) (μ := fun i => l.length - i) 0 ⟨rfl, (by repeat (first | exact LeT.nil | refine LeT.cons rfl ?_ | refine LeT.consw rfl (by (repeat (first | exact Wk.refl _ | exact Wk.nilr _ | exact Wk.nilm | apply Wk.aggc | apply Wk.tupc | exact Wk.aggn | exact Wk.tupn)); first | done | fail) ?_)), (by repeat (first | exact LeH.refl _ | exact LeH.nil _ | refine LeH.cons (by (fail_if_success (apply tkG)); (repeat (first | exact Tk.here | apply Tk.there)); first | done | fail) ?_ | refine LeH.boxw (by (fail_if_success (apply tkG)); (repeat (first | exact Tk.here | apply Tk.there)); first | done | fail) (by (repeat (first | exact Wk.refl _ | exact Wk.nilr _ | exact Wk.nilm | apply Wk.aggc | apply Wk.tupc | exact Wk.aggn | exact Wk.tupn)); first | done | fail) ?_ | refine LeH.skip ?_))⟩ ⟨Nat.zero_le _, by simp⟩ ?_
  rintro i ⟨hi, hn⟩
  rcases Nat.lt_or_ge i l.length with hlt | hge
  · obtain ⟨a, ha⟩ : ∃ a, l[i]? = some a := ⟨_, List.getElem?_eq_getElem hlt⟩
    by_cases hx : a = x
    · rw [decide_eq_true (show x ∈ l by rw [← hx]; exact List.mem_of_getElem? ha)]
      (repeat' (first | (refine iS ?_; refine iMu ?_; refine S.mapU ?_) | refine svz ⟨fun b hq => ?_⟩ | refine sv1 ?_ | refine svs ⟨?_⟩ | refine svu ⟨fun u => ?_⟩ | (refine svg (fun hg => ?_) (fun hg => ?_) <;> try (exfalso; first | omega | contradiction)) | (refine svc (fun hc => ?_) (fun hc => ?_) <;> try (exfalso; first | omega | contradiction)) | refine sv2 ?_ | refine svh (fun hb => ?_) (fun hb => ?_) | refine svb (fun b => ?_) | refine sva ?_ | refine sv3 ?_))
      exact fin_r (h' := h) ⟨rfl, rfl⟩
    · (repeat' (first | (refine iS ?_; refine iMu ?_; refine S.mapU ?_) | refine svz ⟨fun b hq => ?_⟩ | refine sv1 ?_ | refine svs ⟨?_⟩ | refine svu ⟨fun u => ?_⟩ | (refine svg (fun hg => ?_) (fun hg => ?_) <;> try (exfalso; first | omega | contradiction)) | (refine svc (fun hc => ?_) (fun hc => ?_) <;> try (exfalso; first | omega | contradiction)) | refine sv2 ?_ | refine svh (fun hb => ?_) (fun hb => ?_) | refine svb (fun b => ?_) | refine sva ?_ | refine sv3 ?_))
      refine ⟨i + 1, ⟨hlt, ?_⟩, ⟨rfl, (by repeat (first | exact LeT.nil | refine LeT.cons rfl ?_ | refine LeT.consw rfl (by (repeat (first | exact Wk.refl _ | exact Wk.nilr _ | exact Wk.nilm | apply Wk.aggc | apply Wk.tupc | exact Wk.aggn | exact Wk.tupn)); first | done | fail) ?_)), (by repeat (first | exact LeH.refl _ | exact LeH.nil _ | refine LeH.cons (by (fail_if_success (apply tkG)); (repeat (first | exact Tk.here | apply Tk.there)); first | done | fail) ?_ | refine LeH.boxw (by (fail_if_success (apply tkG)); (repeat (first | exact Tk.here | apply Tk.there)); first | done | fail) (by (repeat (first | exact Wk.refl _ | exact Wk.nilr _ | exact Wk.nilm | apply Wk.aggc | apply Wk.tupc | exact Wk.aggn | exact Wk.tupn)); first | done | fail) ?_ | refine LeH.skip ?_))⟩, by omega⟩
      rw [List.take_add_one, ha]
      intro hm
      rcases List.mem_append.1 hm with q | q
      · exact hn q
      · exact hx ((by simpa using q : x = a).symm)
  · rw [List.take_of_length_le hge] at hn
    rw [decide_eq_false hn]
    (repeat' (first | (refine iS ?_; refine iMu ?_; refine S.mapU ?_) | refine svz ⟨fun b hq => ?_⟩ | refine sv1 ?_ | refine svs ⟨?_⟩ | refine svu ⟨fun u => ?_⟩ | (refine svg (fun hg => ?_) (fun hg => ?_) <;> try (exfalso; first | omega | contradiction)) | (refine svc (fun hc => ?_) (fun hc => ?_) <;> try (exfalso; first | omega | contradiction)) | refine sv2 ?_ | refine svh (fun hb => ?_) (fun hb => ?_) | refine svb (fun b => ?_) | refine sva ?_ | refine sv3 ?_))
    exact fin_r (h' := h) ⟨rfl, rfl⟩
def wrF (c id others : Int) (add : Bool) : Int := if schF c id ≠ 0 then schF c id else if add = true ∧ 64 ≤ others then 5 else 0
theorem sch_1 {c id : Int} (hc : ¬ (1 ≤ c ∧ c ≤ 8)) : schF c id = 1 := by unfold schF isC; rw [decide_eq_false hc, if_pos rfl]
theorem sch_v {c id : Int} (hc : 1 ≤ c ∧ c ≤ 8) : schF c id = if icF id ≠ 0 then icF id else if id = 1 then 23 else if mineF c id then 16 else 0 := by unfold schF isC; rw [decide_eq_true hc, if_neg (by decide)]
theorem cli_v {id : Int} (h1 : id ≠ 1) : cliF id = if id % 1048576 = 0 ∨ ¬ (1 ≤ id / 1048576 ∧ id / 1048576 ≤ 8) then (0, false) else (id / 1048576, true) := by
  unfold cliF isC
  rw [if_neg h1]
  by_cases h : 1 ≤ id / 1048576 ∧ id / 1048576 ≤ 8
  · rw [decide_eq_true h]; simp [h]
  · rw [decide_eq_false h, if_pos (.inr rfl), if_pos (.inr h)]
set_option maxRecDepth 100000 in
theorem wrong_c (c id others : Int) (add : Bool) (h : Heap) (h0 : 0 ≤ id) (h1 : id ≤ 4294967295) : ACalls Try.prog 21 [.val (.int .i64 (c)), .val (.int .u32 (id)), .val (.int .i64 (others)), .val (.bool add)] h (fun r h' => r = .val (.int .i64 (wrF c id others add)) ∧ h' = h) := by
  by_cases hc : 1 ≤ c ∧ c ≤ 8
  rotate_left
  · rw [show wrF c id others add = 1 by unfold wrF; rw [sch_1 hc]; rfl]
    refine ACalls.intro Try.func21 rfl Try.ntmps21 Try.results21 (Nat.le_of_ble_eq_true rfl) ?_
    (repeat' (first | (refine iS ?_; refine iMu ?_; refine S.mapU ?_) | refine svz ⟨fun b hq => ?_⟩ | refine sv1 ?_ | refine svs ⟨?_⟩ | refine svu ⟨fun u => ?_⟩ | (refine svg (fun hg => ?_) (fun hg => ?_) <;> try (exfalso; first | omega | contradiction)) | (refine svc (fun hc => ?_) (fun hc => ?_) <;> try (exfalso; first | omega | contradiction)) | refine sv2 ?_ | refine svh (fun hb => ?_) (fun hb => ?_) | refine svb (fun b => ?_) | refine sva ?_ | refine sv3 ?_))
    all_goals first | exact fin_r (h' := h) ⟨rfl, rfl⟩ | (exfalso; omega)
  by_cases hz : id = 0
  · rw [show wrF c id others add = 6 by unfold wrF; rw [sch_v hc, show icF id = 6 by unfold icF; rw [if_pos hz]]; rfl]
    refine ACalls.intro Try.func21 rfl Try.ntmps21 Try.results21 (Nat.le_of_ble_eq_true rfl) ?_
    (repeat' (first | (refine iS ?_; refine iMu ?_; refine S.mapU ?_) | refine svz ⟨fun b hq => ?_⟩ | refine sv1 ?_ | refine svs ⟨?_⟩ | refine svu ⟨fun u => ?_⟩ | (refine svg (fun hg => ?_) (fun hg => ?_) <;> try (exfalso; first | omega | contradiction)) | (refine svc (fun hc => ?_) (fun hc => ?_) <;> try (exfalso; first | omega | contradiction)) | refine sv2 ?_ | refine svh (fun hb => ?_) (fun hb => ?_) | refine svb (fun b => ?_) | refine sva ?_ | refine sv3 ?_))
    exact fin_r (h' := h) ⟨rfl, rfl⟩
  by_cases ho : id = 1
  · rw [show wrF c id others add = 23 by unfold wrF; rw [sch_v hc, show icF id = 0 by subst ho; decide, if_neg (show ¬ (0 : Int) ≠ 0 by decide), if_pos ho]; rfl]
    refine ACalls.intro Try.func21 rfl Try.ntmps21 Try.results21 (Nat.le_of_ble_eq_true rfl) ?_
    (repeat' (first | (refine iS ?_; refine iMu ?_; refine S.mapU ?_) | refine svz ⟨fun b hq => ?_⟩ | refine sv1 ?_ | refine svs ⟨?_⟩ | refine svu ⟨fun u => ?_⟩ | (refine svg (fun hg => ?_) (fun hg => ?_) <;> try (exfalso; first | omega | contradiction)) | (refine svc (fun hc => ?_) (fun hc => ?_) <;> try (exfalso; first | omega | contradiction)) | refine sv2 ?_ | refine svh (fun hb => ?_) (fun hb => ?_) | refine svb (fun b => ?_) | refine sva ?_ | refine sv3 ?_))
    exact fin_r (h' := h) ⟨rfl, rfl⟩
  have hv := cli_v ho
  by_cases hb : id % 1048576 = 0 ∨ ¬ (1 ≤ id / 1048576 ∧ id / 1048576 ≤ 8)
  · rw [if_pos hb] at hv
    rw [show wrF c id others add = 1 by unfold wrF; rw [sch_v hc, show icF id = 1 by unfold icF; rw [if_neg hz, hv]; rfl]; rfl]
    refine ACalls.intro Try.func21 rfl Try.ntmps21 Try.results21 (Nat.le_of_ble_eq_true rfl) ?_
    (repeat' (first | (refine iS ?_; refine iMu ?_; refine S.mapU ?_) | refine svz ⟨fun b hq => ?_⟩ | refine sv1 ?_ | refine svs ⟨?_⟩ | refine svu ⟨fun u => ?_⟩ | (refine svg (fun hg => ?_) (fun hg => ?_) <;> try (exfalso; first | omega | contradiction)) | (refine svc (fun hc => ?_) (fun hc => ?_) <;> try (exfalso; first | omega | contradiction)) | refine sv2 ?_ | refine svh (fun hb => ?_) (fun hb => ?_) | refine svb (fun b => ?_) | refine sva ?_ | refine sv3 ?_))
    all_goals first | exact fin_r (h' := h) ⟨rfl, rfl⟩ | (exfalso; omega)
  rw [if_neg hb] at hv
  have hi0 : icF id = 0 := by unfold icF; rw [if_neg hz, hv]; rfl
  by_cases hm : id / 1048576 = c
  · rw [show wrF c id others add = 16 by
      unfold wrF
      rw [sch_v hc, hi0, if_neg (show ¬ (0 : Int) ≠ 0 by decide), if_neg ho, show mineF c id = true by unfold mineF; rw [hv]; simp [hm]; omega]
      rfl]
    refine ACalls.intro Try.func21 rfl Try.ntmps21 Try.results21 (Nat.le_of_ble_eq_true rfl) ?_
    (repeat' (first | (refine iS ?_; refine iMu ?_; refine S.mapU ?_) | refine svz ⟨fun b hq => ?_⟩ | refine sv1 ?_ | refine svs ⟨?_⟩ | refine svu ⟨fun u => ?_⟩ | (refine svg (fun hg => ?_) (fun hg => ?_) <;> try (exfalso; first | omega | contradiction)) | (refine svc (fun hc => ?_) (fun hc => ?_) <;> try (exfalso; first | omega | contradiction)) | refine sv2 ?_ | refine svh (fun hb => ?_) (fun hb => ?_) | refine svb (fun b => ?_) | refine sva ?_ | refine sv3 ?_))
    all_goals first | exact fin_r (h' := h) ⟨rfl, rfl⟩ | (exfalso; omega)
  have hs : schF c id = 0 := by
    rw [sch_v hc, hi0, if_neg (show ¬ (0 : Int) ≠ 0 by decide), if_neg ho, show mineF c id = false by unfold mineF; rw [hv]; simp [hm]]
    rfl
  have e : wrF c id others add = if add = true ∧ 64 ≤ others then 5 else 0 := by unfold wrF; rw [hs]; rfl
  rw [e]
  clear e hs hi0 hv
  cases add with
  | false =>
    rw [if_neg (by simp)]
    refine ACalls.intro Try.func21 rfl Try.ntmps21 Try.results21 (Nat.le_of_ble_eq_true rfl) ?_
    (repeat' (first | (refine iS ?_; refine iMu ?_; refine S.mapU ?_) | refine svz ⟨fun b hq => ?_⟩ | refine sv1 ?_ | refine svs ⟨?_⟩ | refine svu ⟨fun u => ?_⟩ | (refine svg (fun hg => ?_) (fun hg => ?_) <;> try (exfalso; first | omega | contradiction)) | (refine svc (fun hc => ?_) (fun hc => ?_) <;> try (exfalso; first | omega | contradiction)) | refine sv2 ?_ | refine svh (fun hb => ?_) (fun hb => ?_) | refine svb (fun b => ?_) | refine sva ?_ | refine sv3 ?_))
    all_goals first | exact fin_r (h' := h) ⟨rfl, rfl⟩ | (exfalso; omega)
  | true =>
    by_cases h64 : 64 ≤ others
    · rw [if_pos ⟨rfl, h64⟩]
      refine ACalls.intro Try.func21 rfl Try.ntmps21 Try.results21 (Nat.le_of_ble_eq_true rfl) ?_
      (repeat' (first | (refine iS ?_; refine iMu ?_; refine S.mapU ?_) | refine svz ⟨fun b hq => ?_⟩ | refine sv1 ?_ | refine svs ⟨?_⟩ | refine svu ⟨fun u => ?_⟩ | (refine svg (fun hg => ?_) (fun hg => ?_) <;> try (exfalso; first | omega | contradiction)) | (refine svc (fun hc => ?_) (fun hc => ?_) <;> try (exfalso; first | omega | contradiction)) | refine sv2 ?_ | refine svh (fun hb => ?_) (fun hb => ?_) | refine svb (fun b => ?_) | refine sva ?_ | refine sv3 ?_))
      all_goals first | exact fin_r (h' := h) ⟨rfl, rfl⟩ | (exfalso; omega)
    · rw [if_neg (fun q => h64 q.2)]
      refine ACalls.intro Try.func21 rfl Try.ntmps21 Try.results21 (Nat.le_of_ble_eq_true rfl) ?_
      (repeat' (first | (refine iS ?_; refine iMu ?_; refine S.mapU ?_) | refine svz ⟨fun b hq => ?_⟩ | refine sv1 ?_ | refine svs ⟨?_⟩ | refine svu ⟨fun u => ?_⟩ | (refine svg (fun hg => ?_) (fun hg => ?_) <;> try (exfalso; first | omega | contradiction)) | (refine svc (fun hc => ?_) (fun hc => ?_) <;> try (exfalso; first | omega | contradiction)) | refine sv2 ?_ | refine svh (fun hb => ?_) (fun hb => ?_) | refine svb (fun b => ?_) | refine sva ?_ | refine sv3 ?_))
      all_goals first | exact fin_r (h' := h) ⟨rfl, rfl⟩ | (exfalso; omega)
set_option maxRecDepth 100000 in
theorem same_c (a b : List Int) (h : Heap) : ACalls Try.prog 22 [.ro 1 (ints .u32 (a)), .ro 1 (ints .u32 (b))] h (fun r h' => r = .val (.bool (decide (a = b))) ∧ h' = h) := by
  refine ACalls.intro Try.func22 rfl Try.ntmps22 Try.results22 (Nat.le_of_ble_eq_true rfl) ?_
  refine W.len 0 rfl (fun ha => ?_); simp only [ints, splice, List.length_map, List.length_append, List.length_cons, List.length_nil, List.length_take, List.length_drop, List.length_set, List.length_replicate] at ha
  refine W.len 1 rfl (fun hb => ?_); simp only [ints, splice, List.length_map, List.length_append, List.length_cons, List.length_nil, List.length_take, List.length_drop, List.length_set, List.length_replicate] at hb
  by_cases hl : a.length = b.length
  · (repeat' (first | (refine iS ?_; refine iMu ?_; refine S.mapU ?_) | refine svz ⟨fun b hq => ?_⟩ | refine sv1 ?_ | refine svs ⟨?_⟩ | refine svu ⟨fun u => ?_⟩ | (refine svg (fun hg => ?_) (fun hg => ?_) <;> try (exfalso; first | omega | contradiction)) | (refine svc (fun hc => ?_) (fun hc => ?_) <;> try (exfalso; first | omega | contradiction)) | refine sv2 ?_ | refine svh (fun hb => ?_) (fun hb => ?_) | refine svb (fun b => ?_) | refine sva ?_ | refine sv3 ?_))
    refine W.loop (J := fun k : Nat => ⟨26, [(13, .val (.int .i64 (k : Int))), (12, .val (.int .i64 (a.length : Nat))), (4, .val (.bool false)), (0, .ro 1 (ints .u32 a)), (1, .ro 1 (ints .u32 b))], h⟩)
      (Φ := fun k => k ≤ a.length ∧ a.take k = b.take k) (μ := fun k => a.length - k) 0 ⟨rfl, (by repeat (first | exact LeT.nil | refine LeT.cons rfl ?_ | refine LeT.consw rfl (by (repeat (first | exact Wk.refl _ | exact Wk.nilr _ | exact Wk.nilm | apply Wk.aggc | apply Wk.tupc | exact Wk.aggn | exact Wk.tupn)); first | done | fail) ?_)), (by repeat (first | exact LeH.refl _ | exact LeH.nil _ | refine LeH.cons (by (fail_if_success (apply tkG)); (repeat (first | exact Tk.here | apply Tk.there)); first | done | fail) ?_ | refine LeH.boxw (by (fail_if_success (apply tkG)); (repeat (first | exact Tk.here | apply Tk.there)); first | done | fail) (by (repeat (first | exact Wk.refl _ | exact Wk.nilr _ | exact Wk.nilm | apply Wk.aggc | apply Wk.tupc | exact Wk.aggn | exact Wk.tupn)); first | done | fail) ?_ | refine LeH.skip ?_))⟩ ⟨Nat.zero_le _, rfl⟩ ?_
    rintro k ⟨hk, he⟩
    rcases Nat.lt_or_ge k a.length with hlt | hge
    · have hltb : k < b.length := by omega
      by_cases hx : a[k] = b[k]
      · (repeat' (first | (refine iS ?_; refine iMu ?_; refine S.mapU ?_) | refine svz ⟨fun b hq => ?_⟩ | refine sv1 ?_ | refine svs ⟨?_⟩ | refine svu ⟨fun u => ?_⟩ | (refine svg (fun hg => ?_) (fun hg => ?_) <;> try (exfalso; first | omega | contradiction)) | (refine svc (fun hc => ?_) (fun hc => ?_) <;> try (exfalso; first | omega | contradiction)) | refine sv2 ?_ | refine svh (fun hb => ?_) (fun hb => ?_) | refine svb (fun b => ?_) | refine sva ?_ | refine sv3 ?_))
        refine ⟨k + 1, ⟨hlt, ?_⟩, ⟨rfl, (by repeat (first | exact LeT.nil | refine LeT.cons rfl ?_ | refine LeT.consw rfl (by (repeat (first | exact Wk.refl _ | exact Wk.nilr _ | exact Wk.nilm | apply Wk.aggc | apply Wk.tupc | exact Wk.aggn | exact Wk.tupn)); first | done | fail) ?_)), (by repeat (first | exact LeH.refl _ | exact LeH.nil _ | refine LeH.cons (by (fail_if_success (apply tkG)); (repeat (first | exact Tk.here | apply Tk.there)); first | done | fail) ?_ | refine LeH.boxw (by (fail_if_success (apply tkG)); (repeat (first | exact Tk.here | apply Tk.there)); first | done | fail) (by (repeat (first | exact Wk.refl _ | exact Wk.nilr _ | exact Wk.nilm | apply Wk.aggc | apply Wk.tupc | exact Wk.aggn | exact Wk.tupn)); first | done | fail) ?_ | refine LeH.skip ?_))⟩, by omega⟩
        rw [List.take_add_one, List.take_add_one, he, List.getElem?_eq_getElem hlt, List.getElem?_eq_getElem hltb, hx]
      · have hne : a ≠ b := fun e => hx (by subst e; rfl)
        rw [decide_eq_false hne]
        (repeat' (first | (refine iS ?_; refine iMu ?_; refine S.mapU ?_) | refine svz ⟨fun b hq => ?_⟩ | refine sv1 ?_ | refine svs ⟨?_⟩ | refine svu ⟨fun u => ?_⟩ | (refine svg (fun hg => ?_) (fun hg => ?_) <;> try (exfalso; first | omega | contradiction)) | (refine svc (fun hc => ?_) (fun hc => ?_) <;> try (exfalso; first | omega | contradiction)) | refine sv2 ?_ | refine svh (fun hb => ?_) (fun hb => ?_) | refine svb (fun b => ?_) | refine sva ?_ | refine sv3 ?_))
        exact fin_r (h' := h) ⟨rfl, rfl⟩
    · have e : a = b := by rw [List.take_of_length_le hge, List.take_of_length_le (by omega)] at he; exact he
      rw [decide_eq_true e]
      (repeat' (first | (refine iS ?_; refine iMu ?_; refine S.mapU ?_) | refine svz ⟨fun b hq => ?_⟩ | refine sv1 ?_ | refine svs ⟨?_⟩ | refine svu ⟨fun u => ?_⟩ | (refine svg (fun hg => ?_) (fun hg => ?_) <;> try (exfalso; first | omega | contradiction)) | (refine svc (fun hc => ?_) (fun hc => ?_) <;> try (exfalso; first | omega | contradiction)) | refine sv2 ?_ | refine svh (fun hb => ?_) (fun hb => ?_) | refine svb (fun b => ?_) | refine sva ?_ | refine sv3 ?_))
      exact fin_r (h' := h) ⟨rfl, rfl⟩
  · have hne : a ≠ b := fun e => hl (by rw [e])
    rw [decide_eq_false hne]
    (repeat' (first | (refine iS ?_; refine iMu ?_; refine S.mapU ?_) | refine svz ⟨fun b hq => ?_⟩ | refine sv1 ?_ | refine svs ⟨?_⟩ | refine svu ⟨fun u => ?_⟩ | (refine svg (fun hg => ?_) (fun hg => ?_) <;> try (exfalso; first | omega | contradiction)) | (refine svc (fun hc => ?_) (fun hc => ?_) <;> try (exfalso; first | omega | contradiction)) | refine sv2 ?_ | refine svh (fun hb => ?_) (fun hb => ?_) | refine svb (fun b => ?_) | refine sva ?_ | refine sv3 ?_))
    exact fin_r (h' := h) ⟨rfl, rfl⟩
theorem ints_cut (O : List Int) (x : Int) (k : Nat) : ints .u32 (O.take k ++ [x] ++ O.drop k) = ((ints .u32 O).drop 0).take (k - 0) ++ [.val (.int .u32 x)] ++ ((ints .u32 O).drop k).take ((ints .u32 O).length - k) := by
  rw [List.take_of_length_le (l := (ints .u32 O).drop k) (by rw [List.length_drop]; omega)]
  unfold ints
  simp [List.map_take, List.map_drop]
set_option maxRecDepth 100000 in
theorem sorted_c (l : List Int) (h : Heap) (hl : l.length ≤ 1000000) : ACalls Try.prog 11 [.ro 1 (ints .u32 (l))] h (fun r h' => r = .ro 1 (ints .u32 (srt l)) ∧ h' = h) := by
  refine ACalls.frz (Q := fun r h' => ∃ v, r = .val v ∧ h' = .own v 1 (ints .u32 (srt l)) 43 :: h) ?_ (by rintro r h' ⟨v, rfl, rfl⟩; exact ⟨v, 1, _, _, _, h, .here, .hit, rfl, rfl⟩)
  refine ACalls.intro Try.func11 rfl Try.ntmps11 Try.results11 (Nat.le_of_ble_eq_true rfl) ?_
  (repeat' (first | (refine iS ?_; refine iMu ?_; refine S.mapU ?_) | refine svz ⟨fun b hq => ?_⟩ | refine sv1 ?_ | refine svs ⟨?_⟩ | refine svu ⟨fun u => ?_⟩ | (refine svg (fun hg => ?_) (fun hg => ?_) <;> try (exfalso; first | omega | contradiction)) | (refine svc (fun hc => ?_) (fun hc => ?_) <;> try (exfalso; first | omega | contradiction)) | refine sv2 ?_ | refine svh (fun hb => ?_) (fun hb => ?_) | refine svb (fun b => ?_) | refine sva ?_ | refine sv3 ?_))
  refine W.nil_ 1 43 ?_
  refine W.loop (J := fun z : Nat × Value => ⟨44, [(10, .val (.int .i64 ((z.1 : Nat)))), (9, .val (.int .i64 ((l.length : Nat)))), (8, .ro 1 (ints .u32 (l))), (3, .val z.2), (2, .val (.slice none 0 0))], .own z.2 1 (ints .u32 (srt (l.take z.1))) 43 :: h⟩)
    (Φ := fun z => z.1 ≤ l.length) (μ := fun z => l.length - z.1) (0, .slice none 0 0) (by rw [show srt (l.take 0) = [] by simp [srt]]; exact ⟨rfl, (by repeat (first | exact LeT.nil | refine LeT.cons rfl ?_ | refine LeT.consw rfl (by (repeat (first | exact Wk.refl _ | exact Wk.nilr _ | exact Wk.nilm | apply Wk.aggc | apply Wk.tupc | exact Wk.aggn | exact Wk.tupn)); first | done | fail) ?_)), (by repeat (first | exact LeH.refl _ | exact LeH.nil _ | refine LeH.cons (by (fail_if_success (apply tkG)); (repeat (first | exact Tk.here | apply Tk.there)); first | done | fail) ?_ | refine LeH.boxw (by (fail_if_success (apply tkG)); (repeat (first | exact Tk.here | apply Tk.there)); first | done | fail) (by (repeat (first | exact Wk.refl _ | exact Wk.nilr _ | exact Wk.nilm | apply Wk.aggc | apply Wk.tupc | exact Wk.aggn | exact Wk.tupn)); first | done | fail) ?_ | refine LeH.skip ?_))⟩) (Nat.zero_le _) ?_
  rintro ⟨i, v⟩ hi
  dsimp only at hi ⊢
  rcases Nat.lt_or_ge i l.length with hlt | hge
  · obtain ⟨x, hx⟩ : ∃ x, l[i]? = some x := ⟨_, List.getElem?_eq_getElem hlt⟩
    have hso := srt_sorted (l.take i)
    have hpm := srt_perm (l.take i)
    have htk : l.take (i + 1) = l.take i ++ [x] := by rw [List.take_add_one, hx]; rfl
    have hle : (srt (l.take i)).length ≤ 1000000 := by rw [hpm.length_eq, List.length_take]; omega
    have key : ∀ k, (∀ a ∈ (srt (l.take i)).take k, a < x) → (∀ a ∈ (srt (l.take i)).drop k, x ≤ a) → (srt (l.take i)).take k ++ [x] ++ (srt (l.take i)).drop k = srt (l.take (i + 1)) := fun k h1 h2 => by
      refine srt_eq ?_ ?_
      · rw [htk, List.append_assoc]
        show (List.take k (srt (l.take i)) ++ x :: List.drop k (srt (l.take i))).Perm _
        refine (List.perm_middle).trans ?_
        rw [List.take_append_drop]
        exact (hpm.cons x).trans (List.perm_append_singleton x _).symm
      · rw [List.append_assoc, List.pairwise_append]
        have hso2 := hso
        rw [← List.take_append_drop k (srt (l.take i)), List.pairwise_append] at hso2
        refine ⟨hso2.1, List.pairwise_cons.2 ⟨h2, hso2.2.1⟩, fun a ha b hb => ?_⟩
        rcases List.mem_cons.1 hb with rfl | hb
        · exact Int.le_of_lt (h1 a ha)
        · exact hso2.2.2 a ha b hb
    generalize hO1 : srt (l.take (i + 1)) = O1 at *
    generalize srt (l.take i) = O at *
    (repeat' (first | (refine iS ?_; refine iMu ?_; refine S.mapU ?_) | refine svz ⟨fun b hq => ?_⟩ | refine sv1 ?_ | refine svs ⟨?_⟩ | refine svu ⟨fun u => ?_⟩ | (refine svg (fun hg => ?_) (fun hg => ?_) <;> try (exfalso; first | omega | contradiction)) | (refine svc (fun hc => ?_) (fun hc => ?_) <;> try (exfalso; first | omega | contradiction)) | refine sv2 ?_ | refine svh (fun hb => ?_) (fun hb => ?_) | refine svb (fun b => ?_) | refine sva ?_ | refine sv3 ?_))
    refine W.loop (J := fun k : Nat => ⟨44, [(6, .val (.int .i64 ((k : Nat)))), (5, .val (.int .u32 (x))), (10, .val (.int .i64 ((i : Nat)))), (9, .val (.int .i64 ((l.length : Nat)))), (8, .ro 1 (ints .u32 (l))), (3, .val v), (2, .val (.slice none 0 0))], .own v 1 (ints .u32 O) 43 :: h⟩)
      (Φ := fun k => k ≤ O.length ∧ ∀ a ∈ O.take k, a < x) (μ := fun k => O.length - k) 0 ⟨rfl, (by repeat (first | exact LeT.nil | refine LeT.cons rfl ?_ | refine LeT.consw rfl (by (repeat (first | exact Wk.refl _ | exact Wk.nilr _ | exact Wk.nilm | apply Wk.aggc | apply Wk.tupc | exact Wk.aggn | exact Wk.tupn)); first | done | fail) ?_)), (by repeat (first | exact LeH.refl _ | exact LeH.nil _ | refine LeH.cons (by (fail_if_success (apply tkG)); (repeat (first | exact Tk.here | apply Tk.there)); first | done | fail) ?_ | refine LeH.boxw (by (fail_if_success (apply tkG)); (repeat (first | exact Tk.here | apply Tk.there)); first | done | fail) (by (repeat (first | exact Wk.refl _ | exact Wk.nilr _ | exact Wk.nilm | apply Wk.aggc | apply Wk.tupc | exact Wk.aggn | exact Wk.tupn)); first | done | fail) ?_ | refine LeH.skip ?_))⟩ ⟨Nat.zero_le _, by simp⟩ ?_
    rintro k ⟨hk, hal⟩
    by_cases hc : ∃ a, O[k]? = some a ∧ a < x
    · obtain ⟨a, ha, hax⟩ := hc
      have hkl : k < O.length := (List.getElem?_eq_some_iff.1 ha).1
      (repeat' (first | (refine iS ?_; refine iMu ?_; refine S.mapU ?_) | refine svz ⟨fun b hq => ?_⟩ | refine sv1 ?_ | refine svs ⟨?_⟩ | refine svu ⟨fun u => ?_⟩ | (refine svg (fun hg => ?_) (fun hg => ?_) <;> try (exfalso; first | omega | contradiction)) | (refine svc (fun hc => ?_) (fun hc => ?_) <;> try (exfalso; first | omega | contradiction)) | refine sv2 ?_ | refine svh (fun hb => ?_) (fun hb => ?_) | refine svb (fun b => ?_) | refine sva ?_ | refine sv3 ?_))
      refine ⟨k + 1, ⟨hkl, ?_⟩, ⟨rfl, (by repeat (first | exact LeT.nil | refine LeT.cons rfl ?_ | refine LeT.consw rfl (by (repeat (first | exact Wk.refl _ | exact Wk.nilr _ | exact Wk.nilm | apply Wk.aggc | apply Wk.tupc | exact Wk.aggn | exact Wk.tupn)); first | done | fail) ?_)), (by repeat (first | exact LeH.refl _ | exact LeH.nil _ | refine LeH.cons (by (fail_if_success (apply tkG)); (repeat (first | exact Tk.here | apply Tk.there)); first | done | fail) ?_ | refine LeH.boxw (by (fail_if_success (apply tkG)); (repeat (first | exact Tk.here | apply Tk.there)); first | done | fail) (by (repeat (first | exact Wk.refl _ | exact Wk.nilr _ | exact Wk.nilm | apply Wk.aggc | apply Wk.tupc | exact Wk.aggn | exact Wk.tupn)); first | done | fail) ?_ | refine LeH.skip ?_))⟩, by omega⟩
      rw [List.take_add_one, ha]
      intro b hb
      rcases List.mem_append.1 hb with q | q
      · exact hal b q
      · have : b = a := by simpa using q
        omega
    · have hdr : ∀ a ∈ O.drop k, x ≤ a := by
        intro b hb
        rcases Nat.lt_or_ge k O.length with hkl | hkl
        · obtain ⟨a, ha⟩ : ∃ a, O[k]? = some a := ⟨_, List.getElem?_eq_getElem hkl⟩
          have hxa : x ≤ a := by
            rcases Int.lt_or_le a x with q | q
            · exact absurd ⟨a, ha, q⟩ hc
            · exact q
          rw [List.drop_eq_getElem_cons hkl] at hb
          have e2 : O[k] = a := by rw [List.getElem?_eq_getElem hkl] at ha; injection ha
          rw [e2] at hb
          rcases List.mem_cons.1 hb with rfl | hb
          · exact hxa
          · have hp := List.pairwise_iff_getElem.1 hso
            obtain ⟨j, hj, rfl⟩ := List.getElem_of_mem hb
            rw [List.getElem_drop]
            rw [List.length_drop] at hj
            have := hp k (k + 1 + j) hkl (by omega) (by omega)
            rw [e2] at this
            omega
        · rw [List.drop_of_length_le hkl] at hb; cases hb
      have e := key k hal hdr
      clear key hal hdr hso hpm
      rcases Nat.lt_or_ge k O.length with hkl | hkl
      · obtain ⟨a, ha⟩ : ∃ a, O[k]? = some a := ⟨_, List.getElem?_eq_getElem hkl⟩
        have hxa : ¬ a < x := fun q => hc ⟨a, ha, q⟩
        clear hc
        (repeat' (first | (refine iR2 ?_; refine r2b ?_; refine R2.one ?_) | (refine iS ?_; refine iN ?_; refine S.build1r ?_) | (refine iS ?_; refine iMu ?_; refine S.mapU ?_) | refine svz ⟨fun b hq => ?_⟩ | refine sv1 ?_ | refine svs ⟨?_⟩ | refine svu ⟨fun u => ?_⟩ | (refine svg (fun hg => ?_) (fun hg => ?_) <;> try (exfalso; first | omega | contradiction)) | (refine svc (fun hc => ?_) (fun hc => ?_) <;> try (exfalso; first | omega | contradiction)) | refine sv2 ?_ | refine svh (fun hb => ?_) (fun hb => ?_) | refine svb (fun b => ?_) | refine sva ?_ | refine sv3 ?_))
        refine ⟨(i + 1, u), hlt, ?_, by dsimp only; omega⟩
        dsimp only
        rw [hO1, ← e, ints_cut]
        exact ⟨rfl, (by repeat (first | exact LeT.nil | refine LeT.cons rfl ?_ | refine LeT.consw rfl (by (repeat (first | exact Wk.refl _ | exact Wk.nilr _ | exact Wk.nilm | apply Wk.aggc | apply Wk.tupc | exact Wk.aggn | exact Wk.tupn)); first | done | fail) ?_)), (by repeat (first | exact LeH.refl _ | exact LeH.nil _ | refine LeH.cons (by (fail_if_success (apply tkG)); (repeat (first | exact Tk.here | apply Tk.there)); first | done | fail) ?_ | refine LeH.boxw (by (fail_if_success (apply tkG)); (repeat (first | exact Tk.here | apply Tk.there)); first | done | fail) (by (repeat (first | exact Wk.refl _ | exact Wk.nilr _ | exact Wk.nilm | apply Wk.aggc | apply Wk.tupc | exact Wk.aggn | exact Wk.tupn)); first | done | fail) ?_ | refine LeH.skip ?_))⟩
      · clear hc
        (repeat' (first | (refine iR2 ?_; refine r2b ?_; refine R2.one ?_) | (refine iS ?_; refine iN ?_; refine S.build1r ?_) | (refine iS ?_; refine iMu ?_; refine S.mapU ?_) | refine svz ⟨fun b hq => ?_⟩ | refine sv1 ?_ | refine svs ⟨?_⟩ | refine svu ⟨fun u => ?_⟩ | (refine svg (fun hg => ?_) (fun hg => ?_) <;> try (exfalso; first | omega | contradiction)) | (refine svc (fun hc => ?_) (fun hc => ?_) <;> try (exfalso; first | omega | contradiction)) | refine sv2 ?_ | refine svh (fun hb => ?_) (fun hb => ?_) | refine svb (fun b => ?_) | refine sva ?_ | refine sv3 ?_))
        refine ⟨(i + 1, u), hlt, ?_, by dsimp only; omega⟩
        dsimp only
        rw [hO1, ← e, ints_cut]
        exact ⟨rfl, (by repeat (first | exact LeT.nil | refine LeT.cons rfl ?_ | refine LeT.consw rfl (by (repeat (first | exact Wk.refl _ | exact Wk.nilr _ | exact Wk.nilm | apply Wk.aggc | apply Wk.tupc | exact Wk.aggn | exact Wk.tupn)); first | done | fail) ?_)), (by repeat (first | exact LeH.refl _ | exact LeH.nil _ | refine LeH.cons (by (fail_if_success (apply tkG)); (repeat (first | exact Tk.here | apply Tk.there)); first | done | fail) ?_ | refine LeH.boxw (by (fail_if_success (apply tkG)); (repeat (first | exact Tk.here | apply Tk.there)); first | done | fail) (by (repeat (first | exact Wk.refl _ | exact Wk.nilr _ | exact Wk.nilm | apply Wk.aggc | apply Wk.tupc | exact Wk.aggn | exact Wk.tupn)); first | done | fail) ?_ | refine LeH.skip ?_))⟩
  · have e : i = l.length := by omega
    subst e
    rw [List.take_length]
    (repeat' (first | (refine iS ?_; refine iMu ?_; refine S.mapU ?_) | refine svz ⟨fun b hq => ?_⟩ | refine sv1 ?_ | refine svs ⟨?_⟩ | refine svu ⟨fun u => ?_⟩ | (refine svg (fun hg => ?_) (fun hg => ?_) <;> try (exfalso; first | omega | contradiction)) | (refine svc (fun hc => ?_) (fun hc => ?_) <;> try (exfalso; first | omega | contradiction)) | refine sv2 ?_ | refine svh (fun hb => ?_) (fun hb => ?_) | refine svb (fun b => ?_) | refine sva ?_ | refine sv3 ?_))
    exact fin_r (h' := .own v 1 (ints .u32 (srt l)) 43 :: h) ⟨v, rfl, rfl⟩
end Go.Proofs.Ytkpbbiknhhmfiaa
