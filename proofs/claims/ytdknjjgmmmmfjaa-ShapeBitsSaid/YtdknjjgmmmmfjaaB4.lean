import Derived.Test.YtdknjjgmmmmfjaaB2
/- The reference's Same. No condition. -/
namespace Go.Proofs.Ytdknjjgmmmmfjaa
open Go Go.VM
attribute [local irreducible] PurV Pur Step RL W D ACalls Then InBlock Fini
set_option linter.unusedVariables false
set_option linter.unusedSimpArgs false
set_option maxHeartbeats 20000000
instance : TEq Try.prog 43 4 := ⟨by kernel_rfl, by kernel_rfl, by kernel_rfl, by kernel_rfl, by kernel_rfl⟩
theorem RC.eq4 (r s : RC) : (∀ q ∈ [(IntKind.i64, r.x, s.x), (IntKind.i64, r.y, s.y), (IntKind.i64, r.w, s.w), (IntKind.i64, r.h, s.h)], q.2.1 = q.2.2) ↔ r = s := by
  obtain ⟨a, b, c, d⟩ := r
  obtain ⟨a', b', c', d'⟩ := s
  simp
set_option maxRecDepth 100000 in
theorem rsame_c (a b : List RC) (h : Heap) : ACalls Try.prog 24 [.ro 4 (a.map RC.enc), .ro 4 (b.map RC.enc)] h (fun v h' => v = .val (.bool (decide (a = b))) ∧ h' = h) := by
  refine ACalls.intro Try.func24 rfl Try.ntmps24 Try.results24 (Nat.le_of_ble_eq_true rfl) ?_
  refine W.len 0 rfl (fun ha => ?_); simp only [ints, splice, List.length_map, List.length_append, List.length_cons, List.length_nil, List.length_take, List.length_drop, List.length_set, List.length_replicate] at ha
  refine W.len 1 rfl (fun hb => ?_); simp only [ints, splice, List.length_map, List.length_append, List.length_cons, List.length_nil, List.length_take, List.length_drop, List.length_set, List.length_replicate] at hb
  by_cases hl : a.length = b.length
  · (repeat' (first | (refine iS ?_; refine iMu ?_; refine S.mapU ?_) | refine svz ⟨fun b hq => ?_⟩ | refine sv1 ?_ | refine svs ⟨?_⟩ | refine svu ⟨fun u => ?_⟩ | (refine svg (fun hg => ?_) (fun hg => ?_) <;> try (exfalso; first | omega | contradiction)) | (refine svc (fun hc => ?_) (fun hc => ?_) <;> try (exfalso; first | omega | contradiction)) | refine sv2 ?_ | refine svh (fun hb => ?_) (fun hb => ?_) | refine svb (fun b => ?_) | refine sva ?_ | refine sv3 ?_))
    refine W.loop (J := fun k : Nat => ⟨26, [(5, .val (.int .i64 (k : Int))), (4, .val (.bool false)), (0, .ro 4 (a.map RC.enc)), (1, .ro 4 (b.map RC.enc))], h⟩)
      (Φ := fun k => k ≤ a.length ∧ a.take k = b.take k) (μ := fun k => a.length - k) 0 lee ⟨Nat.zero_le _, rfl⟩ ?_
    rintro k ⟨hk, he⟩
    rcases Nat.lt_or_ge k a.length with hlt | hge
    · have hltb : k < b.length := by omega
      have hx : a[k]? = some a[k] := List.getElem?_eq_getElem hlt
      have hy : b[k]? = some b[k] := List.getElem?_eq_getElem hltb
      generalize hr : a[k] = r at *
      generalize hs : b[k] = s at *
      (repeat' (first | (refine iS ?_; refine iMu ?_; refine S.mapU ?_) | refine svz ⟨fun b hq => ?_⟩ | refine sv1 ?_ | refine svs ⟨?_⟩ | refine svu ⟨fun u => ?_⟩ | (refine svg (fun hg => ?_) (fun hg => ?_) <;> try (exfalso; first | omega | contradiction)) | (refine svc (fun hc => ?_) (fun hc => ?_) <;> try (exfalso; first | omega | contradiction)) | refine sv2 ?_ | refine svh (fun hb => ?_) (fun hb => ?_) | refine svb (fun b => ?_) | refine sva ?_ | refine sv3 ?_))
      refine R2.T (v := .val (.bool (decide (¬ r = s)))) ?_ (hp := .vo rfl (pur_neqs (p := r = s) rfl rfl (by repeat (first | exact IEq.nil | apply IEq.cons)) rfl (RC.eq4 r s)))
      by_cases hrs : r = s
      · (repeat' (first | (refine iS ?_; refine iMu ?_; refine S.mapU ?_) | refine svz ⟨fun b hq => ?_⟩ | refine sv1 ?_ | refine svs ⟨?_⟩ | refine svu ⟨fun u => ?_⟩ | (refine svg (fun hg => ?_) (fun hg => ?_) <;> try (exfalso; first | omega | contradiction)) | (refine svc (fun hc => ?_) (fun hc => ?_) <;> try (exfalso; first | omega | contradiction)) | refine sv2 ?_ | refine svh (fun hb => ?_) (fun hb => ?_) | refine svb (fun b => ?_) | refine sva ?_ | refine sv3 ?_))
        refine ⟨k + 1, ⟨hlt, ?_⟩, lee, by omega⟩
        rw [List.take_add_one, List.take_add_one, he, hx, hy, hrs]
      · have hne : a ≠ b := fun e => hrs (by subst e; rw [hx] at hy; injection hy)
        rw [decide_eq_false hne]
        (repeat' (first | (refine iS ?_; refine iMu ?_; refine S.mapU ?_) | refine svz ⟨fun b hq => ?_⟩ | refine sv1 ?_ | refine svs ⟨?_⟩ | refine svu ⟨fun u => ?_⟩ | (refine svg (fun hg => ?_) (fun hg => ?_) <;> try (exfalso; first | omega | contradiction)) | (refine svc (fun hc => ?_) (fun hc => ?_) <;> try (exfalso; first | omega | contradiction)) | refine sv2 ?_ | refine svh (fun hb => ?_) (fun hb => ?_) | refine svb (fun b => ?_) | refine sva ?_ | refine sv3 ?_))
        exact fin_r (h' := _) ⟨rfl, rfl⟩
    · have e : a = b := by rw [List.take_of_length_le hge, List.take_of_length_le (by omega)] at he; exact he
      rw [decide_eq_true e]
      (repeat' (first | (refine iS ?_; refine iMu ?_; refine S.mapU ?_) | refine svz ⟨fun b hq => ?_⟩ | refine sv1 ?_ | refine svs ⟨?_⟩ | refine svu ⟨fun u => ?_⟩ | (refine svg (fun hg => ?_) (fun hg => ?_) <;> try (exfalso; first | omega | contradiction)) | (refine svc (fun hc => ?_) (fun hc => ?_) <;> try (exfalso; first | omega | contradiction)) | refine sv2 ?_ | refine svh (fun hb => ?_) (fun hb => ?_) | refine svb (fun b => ?_) | refine sva ?_ | refine sv3 ?_))
      exact fin_r (h' := _) ⟨rfl, rfl⟩
  · have hne : a ≠ b := fun e => hl (by rw [e])
    rw [decide_eq_false hne]
    (repeat' (first | (refine iS ?_; refine iMu ?_; refine S.mapU ?_) | refine svz ⟨fun b hq => ?_⟩ | refine sv1 ?_ | refine svs ⟨?_⟩ | refine svu ⟨fun u => ?_⟩ | (refine svg (fun hg => ?_) (fun hg => ?_) <;> try (exfalso; first | omega | contradiction)) | (refine svc (fun hc => ?_) (fun hc => ?_) <;> try (exfalso; first | omega | contradiction)) | refine sv2 ?_ | refine svh (fun hb => ?_) (fun hb => ?_) | refine svb (fun b => ?_) | refine sva ?_ | refine sv3 ?_))
    exact fin_r (h' := _) ⟨rfl, rfl⟩
end Go.Proofs.Ytdknjjgmmmmfjaa

/- Areas; whether rows are alike. No condition. -/
namespace Go.Proofs.Ytdknjjgmmmmfjaa
open Go Go.VM
attribute [local irreducible] PurV Pur Step RL W D ACalls Then InBlock Fini
set_option linter.unusedVariables false
set_option linter.unusedSimpArgs false
set_option maxHeartbeats 20000000
def areaF (l : List RC) : Int := (l.map fun r => r.w * r.h).sum
def RC.sm (r : RC) : Prop := 0 ≤ r.w ∧ r.w ≤ 2097152 ∧ 0 ≤ r.h ∧ r.h ≤ 2097152
theorem RC.cnt.sm {r : RC} (h : r.cnt) : r.sm := by
  obtain ⟨⟨h1, h2, h3⟩, ⟨h4, h5, h6⟩⟩ := h
  unfold RC.sm; omega
theorem RC.sm.mul {r : RC} (h : r.sm) : 0 ≤ r.w * r.h ∧ r.w * r.h ≤ 4398046511104 := by
  obtain ⟨h1, h2, h3, h4⟩ := h
  refine ⟨Int.mul_nonneg h1 h3, ?_⟩
  have := Int.mul_le_mul h2 h4 h3 (by omega)
  omega
theorem areaF_snoc (l : List RC) (r : RC) : areaF (l ++ [r]) = areaF l + r.w * r.h := by simp [areaF, List.sum_append]
theorem areaF_le : ∀ (l : List RC), (∀ r ∈ l, r.sm) → 0 ≤ areaF l ∧ areaF l ≤ l.length * 4398046511104
  | [], _ => by simp [areaF]
  | r :: l, h => by
    have h1 := (h r (.head _)).mul
    have h2 := areaF_le l fun s hs => h s (.tail _ hs)
    have e : areaF (r :: l) = r.w * r.h + areaF l := by simp [areaF]
    rw [e, List.length_cons]
    push_cast
    omega
end Go.Proofs.Ytdknjjgmmmmfjaa
