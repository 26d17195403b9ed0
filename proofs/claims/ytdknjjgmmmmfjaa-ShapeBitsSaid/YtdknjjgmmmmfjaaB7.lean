/- Whether rows have the same spans. No condition. -/
import Derived.Test.YtdknjjgmmmmfjaaB6
namespace Go.Proofs.Ytdknjjgmmmmfjaa
open Go Go.VM
attribute [local irreducible] PurV Pur Step RL W D ACalls Then InBlock Fini
set_option linter.unusedVariables false
set_option linter.unusedSimpArgs false
set_option maxHeartbeats 20000000
def alikeP (a b : List RC) : Prop := a.map (fun r => (r.x, r.w)) = b.map (fun r => (r.x, r.w))
instance (a b : List RC) : Decidable (alikeP a b) := inferInstanceAs (Decidable (_ = _))
set_option maxRecDepth 100000 in
theorem ralike_c (a b : List RC) (h : Heap) : ACalls Try.prog 56 [.ro 4 (a.map RC.enc), .ro 4 (b.map RC.enc)] h (fun v h' => v = .val (.bool (decide (alikeP a b))) ∧ h' = h) := by
  refine ACalls.intro Try.func56 rfl Try.ntmps56 Try.results56 (Nat.le_of_ble_eq_true rfl) ?_
  refine W.len 0 rfl (fun ha => ?_); simp only [ints, splice, List.length_map, List.length_append, List.length_cons, List.length_nil, List.length_take, List.length_drop, List.length_set, List.length_replicate] at ha
  refine W.len 1 rfl (fun hb => ?_); simp only [ints, splice, List.length_map, List.length_append, List.length_cons, List.length_nil, List.length_take, List.length_drop, List.length_set, List.length_replicate] at hb
  by_cases hl : a.length = b.length
  · (repeat' (first | (refine iS ?_; refine iMu ?_; refine S.mapU ?_) | refine svz ⟨fun b hq => ?_⟩ | refine sv1 ?_ | refine svs ⟨?_⟩ | refine svu ⟨fun u => ?_⟩ | (refine svg (fun hg => ?_) (fun hg => ?_) <;> try (exfalso; first | omega | contradiction)) | (refine svc (fun hc => ?_) (fun hc => ?_) <;> try (exfalso; first | omega | contradiction)) | refine sv2 ?_ | refine svh (fun hb => ?_) (fun hb => ?_) | refine svb (fun b => ?_) | refine sva ?_ | refine sv3 ?_))
    refine W.loop (J := fun k : Nat => ⟨41, [(5, .val (.int .i64 (k : Int))), (4, .val (.bool false)), (0, .ro 4 (a.map RC.enc)), (1, .ro 4 (b.map RC.enc))], h⟩)
      (Φ := fun k => k ≤ a.length ∧ alikeP (a.take k) (b.take k)) (μ := fun k => a.length - k) 0 lee ⟨Nat.zero_le _, rfl⟩ ?_
    rintro k ⟨hk, he⟩
    rcases Nat.lt_or_ge k a.length with hlt | hge
    · have hltb : k < b.length := by omega
      have hx : a[k]? = some a[k] := List.getElem?_eq_getElem hlt
      have hy : b[k]? = some b[k] := List.getElem?_eq_getElem hltb
      generalize hr : a[k] = r at *
      generalize hs : b[k] = s at *
      by_cases hrx : r.x = s.x
      · by_cases hrw : r.w = s.w
        · (repeat' (first | (refine iS ?_; refine iMu ?_; refine S.mapU ?_) | refine svz ⟨fun b hq => ?_⟩ | refine sv1 ?_ | refine svs ⟨?_⟩ | refine svu ⟨fun u => ?_⟩ | (refine svg (fun hg => ?_) (fun hg => ?_) <;> try (exfalso; first | omega | contradiction)) | (refine svc (fun hc => ?_) (fun hc => ?_) <;> try (exfalso; first | omega | contradiction)) | refine sv2 ?_ | refine svh (fun hb => ?_) (fun hb => ?_) | refine svb (fun b => ?_) | refine sva ?_ | refine sv3 ?_))
          refine ⟨k + 1, ⟨hlt, ?_⟩, lee, by omega⟩
          unfold alikeP at he ⊢
          rw [List.take_add_one, List.take_add_one, hx, hy, List.map_append, List.map_append, he]
          simp [hrx, hrw]
        · have hne : ¬ alikeP a b := fun e => hrw (by
            have := congrArg (·[k]?) e
            simp [hx, hy] at this
            exact this.2)
          rw [decide_eq_false hne]
          (repeat' (first | (refine iS ?_; refine iMu ?_; refine S.mapU ?_) | refine svz ⟨fun b hq => ?_⟩ | refine sv1 ?_ | refine svs ⟨?_⟩ | refine svu ⟨fun u => ?_⟩ | (refine svg (fun hg => ?_) (fun hg => ?_) <;> try (exfalso; first | omega | contradiction)) | (refine svc (fun hc => ?_) (fun hc => ?_) <;> try (exfalso; first | omega | contradiction)) | refine sv2 ?_ | refine svh (fun hb => ?_) (fun hb => ?_) | refine svb (fun b => ?_) | refine sva ?_ | refine sv3 ?_))
          exact fin_r (h' := _) ⟨rfl, rfl⟩
      · have hne : ¬ alikeP a b := fun e => hrx (by
          have := congrArg (·[k]?) e
          simp [hx, hy] at this
          exact this.1)
        rw [decide_eq_false hne]
        (repeat' (first | (refine iS ?_; refine iMu ?_; refine S.mapU ?_) | refine svz ⟨fun b hq => ?_⟩ | refine sv1 ?_ | refine svs ⟨?_⟩ | refine svu ⟨fun u => ?_⟩ | (refine svg (fun hg => ?_) (fun hg => ?_) <;> try (exfalso; first | omega | contradiction)) | (refine svc (fun hc => ?_) (fun hc => ?_) <;> try (exfalso; first | omega | contradiction)) | refine sv2 ?_ | refine svh (fun hb => ?_) (fun hb => ?_) | refine svb (fun b => ?_) | refine sva ?_ | refine sv3 ?_))
        exact fin_r (h' := _) ⟨rfl, rfl⟩
    · have e : alikeP a b := by rw [List.take_of_length_le hge, List.take_of_length_le (by omega)] at he; exact he
      rw [decide_eq_true e]
      (repeat' (first | (refine iS ?_; refine iMu ?_; refine S.mapU ?_) | refine svz ⟨fun b hq => ?_⟩ | refine sv1 ?_ | refine svs ⟨?_⟩ | refine svu ⟨fun u => ?_⟩ | (refine svg (fun hg => ?_) (fun hg => ?_) <;> try (exfalso; first | omega | contradiction)) | (refine svc (fun hc => ?_) (fun hc => ?_) <;> try (exfalso; first | omega | contradiction)) | refine sv2 ?_ | refine svh (fun hb => ?_) (fun hb => ?_) | refine svb (fun b => ?_) | refine sva ?_ | refine sv3 ?_))
      exact fin_r (h' := _) ⟨rfl, rfl⟩
  · have hne : ¬ alikeP a b := fun e => hl (by have := congrArg List.length e; simpa using this)
    rw [decide_eq_false hne]
    (repeat' (first | (refine iS ?_; refine iMu ?_; refine S.mapU ?_) | refine svz ⟨fun b hq => ?_⟩ | refine sv1 ?_ | refine svs ⟨?_⟩ | refine svu ⟨fun u => ?_⟩ | (refine svg (fun hg => ?_) (fun hg => ?_) <;> try (exfalso; first | omega | contradiction)) | (refine svc (fun hc => ?_) (fun hc => ?_) <;> try (exfalso; first | omega | contradiction)) | refine sv2 ?_ | refine svh (fun hb => ?_) (fun hb => ?_) | refine svb (fun b => ?_) | refine sva ?_ | refine sv3 ?_))
    exact fin_r (h' := _) ⟨rfl, rfl⟩
end Go.Proofs.Ytdknjjgmmmmfjaa
