/- Areas; whether rows are alike. No condition. -/
import Derived.Test.YtifpcjnjfdjcdaaB3
namespace Go.Proofs.Ytifpcjnjfdjcdaa
open Go Go.VM
attribute [local irreducible] PurV Pur Step RL W D ACalls Then InBlock Fini
set_option linter.unusedVariables false
set_option linter.unusedSimpArgs false
set_option maxHeartbeats 20000000
def areaF (l : List RC) : Int := (l.map fun r => r.w * r.h).sum
def RC.sm (r : RC) : Prop := 0 ≤ r.w ∧ r.w ≤ 2097152 ∧ 0 ≤ r.h ∧ r.h ≤ 2097152
theorem RC.cnt.sm {r : RC} (h : r.cnt) : r.sm := by
  obtain ⟨⟨h1, h2, h3⟩, ⟨h4, h5, h6⟩⟩ := h
  unfold RC.sm; omega
theorem RC.sm.mul {r : RC} (h : r.sm) : 0 ≤ r.w * r.h ∧ r.w * r.h ≤ 4398046511104 := by
  obtain ⟨h1, h2, h3, h4⟩ := h
  refine ⟨Int.mul_nonneg h1 h3, ?_⟩
  have := Int.mul_le_mul h2 h4 h3 (by omega)
  omega
theorem areaF_snoc (l : List RC) (r : RC) : areaF (l ++ [r]) = areaF l + r.w * r.h := by simp [areaF, List.sum_append]
theorem areaF_le : ∀ (l : List RC), (∀ r ∈ l, r.sm) → 0 ≤ areaF l ∧ areaF l ≤ l.length * 4398046511104
  | [], _ => by simp [areaF]
  | r :: l, h => by
    have h1 := (h r (.head _)).mul
    have h2 := areaF_le l fun s hs => h s (.tail _ hs)
    have e : areaF (r :: l) = r.w * r.h + areaF l := by simp [areaF]
    rw [e, List.length_cons]
    push_cast
    omega
set_option maxRecDepth 100000 in
theorem area_c (l : List RC) (h : Heap) (hl : l.length ≤ 1000000) (hs : ∀ r ∈ l, r.sm) : ACalls Try.prog 25 [.ro 4 (l.map RC.enc)] h (fun v h' => v = .val (.int .i64 (areaF l)) ∧ h' = h) := by
  refine ACalls.intro Try.func25 rfl Try.ntmps25 Try.results25 (Nat.le_of_ble_eq_true rfl) ?_
  (repeat' (first | (refine iS ?_; refine iMu ?_; refine S.mapU ?_) | refine svz ⟨fun b hq => ?_⟩ | refine sv1 ?_ | refine svs ⟨?_⟩ | refine svu ⟨fun u => ?_⟩ | (refine svg (fun hg => ?_) (fun hg => ?_) <;> try (exfalso; first | omega | contradiction)) | (refine svc (fun hc => ?_) (fun hc => ?_) <;> try (exfalso; first | omega | contradiction)) | refine sv2 ?_ | refine svh (fun hb => ?_) (fun hb => ?_) | refine svb (fun b => ?_) | refine sva ?_ | refine sv3 ?_))
  refine W.loop (J := fun k : Nat => ⟨25, [(4, .val (.int .i64 (k : Int))), (3, .val (.int .i64 (areaF (l.take k)))), (0, .ro 4 (l.map RC.enc))], h⟩)
    (Φ := fun k => k ≤ l.length) (μ := fun k => l.length - k) 0 ⟨rfl, (by repeat (first | exact LeT.nil | refine LeT.cons rfl ?_ | refine LeT.consw rfl (by (repeat (first | exact Wk.refl _ | exact Wk.nilr _ | exact Wk.nilm | apply Wk.aggc | apply Wk.tupc | exact Wk.aggn | exact Wk.tupn)); first | done | fail) ?_)), (by repeat (first | exact LeH.refl _ | exact LeH.nil _ | refine LeH.cons (by (fail_if_success (apply tkG)); (repeat (first | exact Tk.here | apply Tk.there)); first | done | fail) ?_ | refine LeH.boxw (by (fail_if_success (apply tkG)); (repeat (first | exact Tk.here | apply Tk.there)); first | done | fail) (by (repeat (first | exact Wk.refl _ | exact Wk.nilr _ | exact Wk.nilm | apply Wk.aggc | apply Wk.tupc | exact Wk.aggn | exact Wk.tupn)); first | done | fail) ?_ | refine LeH.skip ?_))⟩ (Nat.zero_le _) ?_
  intro k hk
  rcases Nat.lt_or_ge k l.length with hlt | hge
  · obtain ⟨r, hx⟩ : ∃ r, l[k]? = some r := ⟨_, List.getElem?_eq_getElem hlt⟩
    have hr : r ∈ l := List.mem_of_getElem? hx
    have e : areaF (l.take (k + 1)) = areaF (l.take k) + r.w * r.h := by rw [List.take_add_one, hx]; exact areaF_snoc ..
    have hm := (hs r hr).mul
    have hb := areaF_le (l.take k) fun s hs' => hs s (List.mem_of_mem_take hs')
    have hk2 : (l.take k).length ≤ 1000000 := by rw [List.length_take]; omega
    generalize areaF (l.take k) = A at *
    (repeat' (first | (refine iS ?_; refine iMu ?_; refine S.mapU ?_) | refine svz ⟨fun b hq => ?_⟩ | refine sv1 ?_ | refine svs ⟨?_⟩ | refine svu ⟨fun u => ?_⟩ | (refine svg (fun hg => ?_) (fun hg => ?_) <;> try (exfalso; first | omega | contradiction)) | (refine svc (fun hc => ?_) (fun hc => ?_) <;> try (exfalso; first | omega | contradiction)) | refine sv2 ?_ | refine svh (fun hb => ?_) (fun hb => ?_) | refine svb (fun b => ?_) | refine sva ?_ | refine sv3 ?_))
    exact ⟨k + 1, hlt, by rw [e]; exact ⟨rfl, (by repeat (first | exact LeT.nil | refine LeT.cons rfl ?_ | refine LeT.consw rfl (by (repeat (first | exact Wk.refl _ | exact Wk.nilr _ | exact Wk.nilm | apply Wk.aggc | apply Wk.tupc | exact Wk.aggn | exact Wk.tupn)); first | done | fail) ?_)), (by repeat (first | exact LeH.refl _ | exact LeH.nil _ | refine LeH.cons (by (fail_if_success (apply tkG)); (repeat (first | exact Tk.here | apply Tk.there)); first | done | fail) ?_ | refine LeH.boxw (by (fail_if_success (apply tkG)); (repeat (first | exact Tk.here | apply Tk.there)); first | done | fail) (by (repeat (first | exact Wk.refl _ | exact Wk.nilr _ | exact Wk.nilm | apply Wk.aggc | apply Wk.tupc | exact Wk.aggn | exact Wk.tupn)); first | done | fail) ?_ | refine LeH.skip ?_))⟩, by omega⟩
  · rw [List.take_of_length_le hge]
    (repeat' (first | (refine iS ?_; refine iMu ?_; refine S.mapU ?_) | refine svz ⟨fun b hq => ?_⟩ | refine sv1 ?_ | refine svs ⟨?_⟩ | refine svu ⟨fun u => ?_⟩ | (refine svg (fun hg => ?_) (fun hg => ?_) <;> try (exfalso; first | omega | contradiction)) | (refine svc (fun hc => ?_) (fun hc => ?_) <;> try (exfalso; first | omega | contradiction)) | refine sv2 ?_ | refine svh (fun hb => ?_) (fun hb => ?_) | refine svb (fun b => ?_) | refine sva ?_ | refine sv3 ?_))
    exact fin_r (h' := _) ⟨rfl, rfl⟩
end Go.Proofs.Ytifpcjnjfdjcdaa
