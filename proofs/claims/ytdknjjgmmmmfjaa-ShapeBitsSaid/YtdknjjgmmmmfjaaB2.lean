
/- The reference's Counts, In, Has, Area. No condition. -/
import Derived.Test.YtdknjjgmmmmfjaaB1
import Derived.Test.YtdknjjgmmmmfjaaU4
namespace Go.Proofs.Ytdknjjgmmmmfjaa
open Go Go.VM
attribute [local irreducible] PurV Pur Step RL W D ACalls Then InBlock Fini
set_option linter.unusedVariables false
set_option linter.unusedSimpArgs false
set_option maxHeartbeats 20000000
set_option maxRecDepth 100000 in
theorem rcounts_c (r : RC) (h : Heap) (ok : r.ok) : ACalls Try.prog 20 [r.enc] h (fun v h' => v = .val (.bool (decide r.cnt)) ∧ h' = h) := by
  refine ACalls.intro Try.func20 rfl Try.ntmps20 Try.results20 (Nat.le_of_ble_eq_true rfl) ?_
  obtain ⟨⟨a1, a2⟩, ⟨a3, a4⟩, ⟨a5, a6⟩, ⟨a7, a8⟩⟩ := ok
  obtain ⟨x, y, w, h⟩ := r
  dsimp only at *
  (repeat' (first | (refine iS ?_; refine iMu ?_; refine S.mapU ?_) | refine svz ⟨fun b hq => ?_⟩ | refine sv1 ?_ | refine svs ⟨?_⟩ | refine svu ⟨fun u => ?_⟩ | (refine svg (fun hg => ?_) (fun hg => ?_) <;> try (exfalso; first | omega | contradiction)) | (refine svc (fun hc => ?_) (fun hc => ?_) <;> try (exfalso; first | omega | contradiction)) | refine sv2 ?_ | refine svh (fun hb => ?_) (fun hb => ?_) | refine svb (fun b => ?_) | refine sva ?_ | refine sv3 ?_))
  all_goals (refine fin_r (h' := _) ⟨?_, rfl⟩; refine congrArg (fun b => AV.val (.bool b)) ?_; first | rfl | (exact (decide_eq_false (by unfold RC.cnt fitP; omega)).symm) | (exact (decide_eq_true (by unfold RC.cnt fitP; omega)).symm) | (refine decide_eq_decide.2 ?_; unfold RC.cnt fitP; omega))
set_option maxRecDepth 100000 in
theorem rin_c (r : RC) (x y : Int) (h : Heap) (hc : r.cnt) : ACalls Try.prog 58 [r.enc, .val (.int .i64 x), .val (.int .i64 y)] h (fun v h' => v = .val (.bool (decide (r.has x y))) ∧ h' = h) := by
  refine ACalls.intro Try.func58 rfl Try.ntmps58 Try.results58 (Nat.le_of_ble_eq_true rfl) ?_
  obtain ⟨⟨a1, a2, a3⟩, ⟨a4, a5, a6⟩⟩ := hc
  (repeat' (first | (refine iS ?_; refine iMu ?_; refine S.mapU ?_) | refine svz ⟨fun b hq => ?_⟩ | refine sv1 ?_ | refine svs ⟨?_⟩ | refine svu ⟨fun u => ?_⟩ | (refine svg (fun hg => ?_) (fun hg => ?_) <;> try (exfalso; first | omega | contradiction)) | (refine svc (fun hc => ?_) (fun hc => ?_) <;> try (exfalso; first | omega | contradiction)) | refine sv2 ?_ | refine svh (fun hb => ?_) (fun hb => ?_) | refine svb (fun b => ?_) | refine sva ?_ | refine sv3 ?_))
  all_goals (refine fin_r (h' := _) ⟨?_, rfl⟩; refine congrArg (fun b => AV.val (.bool b)) ?_; first | rfl | (exact (decide_eq_false (by unfold RC.has; omega)).symm) | (exact (decide_eq_true (by unfold RC.has; omega)).symm) | (refine decide_eq_decide.2 ?_; unfold RC.has; omega))
def hasF (l : List RC) (x y : Int) : Bool := l.any fun r => decide r.cnt && decide (r.has x y)
set_option maxRecDepth 100000 in
theorem rhas_c (l : List RC) (x y : Int) (h : Heap) (ok : ∀ r ∈ l, r.ok) : ACalls Try.prog 29 [.ro 4 (l.map RC.enc), .val (.int .i64 x), .val (.int .i64 y)] h (fun v h' => v = .val (.bool (hasF l x y)) ∧ h' = h) := by
  refine ACalls.intro Try.func29 rfl Try.ntmps29 Try.results29 (Nat.le_of_ble_eq_true rfl) ?_
  refine W.len 0 rfl (fun hlen => ?_); simp only [ints, splice, List.length_map, List.length_append, List.length_cons, List.length_nil, List.length_take, List.length_drop, List.length_set, List.length_replicate] at hlen
  (repeat' (first | (refine iS ?_; refine iMu ?_; refine S.mapU ?_) | refine svz ⟨fun b hq => ?_⟩ | refine sv1 ?_ | refine svs ⟨?_⟩ | refine svu ⟨fun u => ?_⟩ | (refine svg (fun hg => ?_) (fun hg => ?_) <;> try (exfalso; first | omega | contradiction)) | (refine svc (fun hc => ?_) (fun hc => ?_) <;> try (exfalso; first | omega | contradiction)) | refine sv2 ?_ | refine svh (fun hb => ?_) (fun hb => ?_) | refine svb (fun b => ?_) | refine sva ?_ | refine sv3 ?_))
  refine W.loop (J := fun k : Nat => ⟨28, [(7, .val (.int .i64 (k : Int))), (6, .val (.bool false)), (0, .ro 4 (l.map RC.enc)), (1, .val (.int .i64 x)), (2, .val (.int .i64 y))], h⟩)
    (Φ := fun k => k ≤ l.length ∧ hasF (l.take k) x y = false) (μ := fun k => l.length - k) 0 lee ⟨Nat.zero_le _, rfl⟩ ?_
  rintro k ⟨hk, hn⟩
  rcases Nat.lt_or_ge k l.length with hlt | hge
  · obtain ⟨r, hx⟩ : ∃ r, l[k]? = some r := ⟨_, List.getElem?_eq_getElem hlt⟩
    have hr : r ∈ l := List.mem_of_getElem? hx
    have htk : l.take (k + 1) = l.take k ++ [r] := by rw [List.take_add_one, hx]; rfl
    have hstep : hasF (l.take (k + 1)) x y = (decide r.cnt && decide (r.has x y)) := by rw [htk]; unfold hasF at hn ⊢; rw [List.any_append, hn]; simp
    (repeat' (first | (refine iS ?_; refine iMu ?_; refine S.mapU ?_) | refine svz ⟨fun b hq => ?_⟩ | refine sv1 ?_ | refine svs ⟨?_⟩ | refine svu ⟨fun u => ?_⟩ | (refine svg (fun hg => ?_) (fun hg => ?_) <;> try (exfalso; first | omega | contradiction)) | (refine svc (fun hc => ?_) (fun hc => ?_) <;> try (exfalso; first | omega | contradiction)) | refine sv2 ?_ | refine svh (fun hb => ?_) (fun hb => ?_) | refine svb (fun b => ?_) | refine sva ?_ | refine sv3 ?_))
    refine S.call ?_; refine (rcounts_c r _ (ok r hr)).mono ?_; rintro r h' ⟨rfl, hh⟩; subst hh
    by_cases hc : r.cnt
    · rw [decide_eq_true hc]
      (repeat' (first | (refine iS ?_; refine iMu ?_; refine S.mapU ?_) | refine svz ⟨fun b hq => ?_⟩ | refine sv1 ?_ | refine svs ⟨?_⟩ | refine svu ⟨fun u => ?_⟩ | (refine svg (fun hg => ?_) (fun hg => ?_) <;> try (exfalso; first | omega | contradiction)) | (refine svc (fun hc => ?_) (fun hc => ?_) <;> try (exfalso; first | omega | contradiction)) | refine sv2 ?_ | refine svh (fun hb => ?_) (fun hb => ?_) | refine svb (fun b => ?_) | refine sva ?_ | refine sv3 ?_))
      refine S.call ?_; refine (rin_c r x y _ hc).mono ?_; rintro r h' ⟨rfl, hh⟩; subst hh
      by_cases hh : r.has x y
      · have : hasF l x y = true := by
          unfold hasF
          exact List.any_eq_true.2 ⟨r, hr, by simp [hc, hh]⟩
        rw [decide_eq_true hh, this]
        (repeat' (first | (refine iS ?_; refine iMu ?_; refine S.mapU ?_) | refine svz ⟨fun b hq => ?_⟩ | refine sv1 ?_ | refine svs ⟨?_⟩ | refine svu ⟨fun u => ?_⟩ | (refine svg (fun hg => ?_) (fun hg => ?_) <;> try (exfalso; first | omega | contradiction)) | (refine svc (fun hc => ?_) (fun hc => ?_) <;> try (exfalso; first | omega | contradiction)) | refine sv2 ?_ | refine svh (fun hb => ?_) (fun hb => ?_) | refine svb (fun b => ?_) | refine sva ?_ | refine sv3 ?_))
        exact fin_r (h' := _) ⟨rfl, rfl⟩
      · rw [decide_eq_false hh]
        (repeat' (first | (refine iS ?_; refine iMu ?_; refine S.mapU ?_) | refine svz ⟨fun b hq => ?_⟩ | refine sv1 ?_ | refine svs ⟨?_⟩ | refine svu ⟨fun u => ?_⟩ | (refine svg (fun hg => ?_) (fun hg => ?_) <;> try (exfalso; first | omega | contradiction)) | (refine svc (fun hc => ?_) (fun hc => ?_) <;> try (exfalso; first | omega | contradiction)) | refine sv2 ?_ | refine svh (fun hb => ?_) (fun hb => ?_) | refine svb (fun b => ?_) | refine sva ?_ | refine sv3 ?_))
        exact ⟨k + 1, ⟨hlt, by rw [hstep]; simp [hh]⟩, lee, by omega⟩
    · rw [decide_eq_false hc]
      (repeat' (first | (refine iS ?_; refine iMu ?_; refine S.mapU ?_) | refine svz ⟨fun b hq => ?_⟩ | refine sv1 ?_ | refine svs ⟨?_⟩ | refine svu ⟨fun u => ?_⟩ | (refine svg (fun hg => ?_) (fun hg => ?_) <;> try (exfalso; first | omega | contradiction)) | (refine svc (fun hc => ?_) (fun hc => ?_) <;> try (exfalso; first | omega | contradiction)) | refine sv2 ?_ | refine svh (fun hb => ?_) (fun hb => ?_) | refine svb (fun b => ?_) | refine sva ?_ | refine sv3 ?_))
      exact ⟨k + 1, ⟨hlt, by rw [hstep]; simp [hc]⟩, lee, by omega⟩
  · rw [List.take_of_length_le hge] at hn
    rw [hn]
    (repeat' (first | (refine iS ?_; refine iMu ?_; refine S.mapU ?_) | refine svz ⟨fun b hq => ?_⟩ | refine sv1 ?_ | refine svs ⟨?_⟩ | refine svu ⟨fun u => ?_⟩ | (refine svg (fun hg => ?_) (fun hg => ?_) <;> try (exfalso; first | omega | contradiction)) | (refine svc (fun hc => ?_) (fun hc => ?_) <;> try (exfalso; first | omega | contradiction)) | refine sv2 ?_ | refine svh (fun hb => ?_) (fun hb => ?_) | refine svb (fun b => ?_) | refine sva ?_ | refine sv3 ?_))
    exact fin_r (h' := _) ⟨rfl, rfl⟩
end Go.Proofs.Ytdknjjgmmmmfjaa
