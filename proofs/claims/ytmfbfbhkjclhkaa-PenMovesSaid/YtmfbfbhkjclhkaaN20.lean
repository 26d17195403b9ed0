/- The reference's Has. No condition. -/
import Derived.Test.YtmfbfbhkjclhkaaN17
namespace Go.Proofs.Ytmfbfbhkjclhkaa
open Go Go.VM
attribute [local irreducible] PurV Pur Step RL W D ACalls Then InBlock Fini
set_option linter.unusedVariables false
set_option linter.unusedSimpArgs false
set_option maxHeartbeats 20000000
def hasP (p : PN) (w g x y : Int) : Bool := decide ((0 ≤ x ∧ x < w) ∧ 0 ≤ y ∧ y < g) && (!p.cl || hasF (clP p) x y)
theorem hasF_snoc (L : List RC) (r : RC) (x y : Int) : hasF (L ++ [r]) x y = (hasF L x y || (decide r.cnt && decide (r.has x y))) := by unfold hasF; rw [List.any_append]; simp
theorem sh_rt {r : RC} {px py : Int} (hx : placeP px) (hy : placeP py) (hr : r.rt) (x y : Int) : (decide (shR px py r).cnt && decide ((shR px py r).has x y)) = decide ((r.x + px ≤ x ∧ x < r.x + px + r.w) ∧ r.y + py ≤ y ∧ y < r.y + py + r.h) := by
  obtain ⟨⟨a1, a2⟩, a3, a4⟩ := hr
  unfold placeP sideP at *
  rw [← Bool.decide_and]
  refine decide_eq_decide.2 ?_
  unfold RC.cnt fitP RC.has shR
  dsimp only
  omega
set_option maxRecDepth 100000 in
theorem rhasp_c (p : PN) (w g x y : Int) (h : Heap) (hl : p.clip.length ≤ 300) (hc : chkF p = 0) :
    ACalls Try.prog 21 [p.enc, .val (.int .i64 (w)), .val (.int .i64 (g)), .val (.int .i64 (x)), .val (.int .i64 (y))] h (fun r h' => r = .val (.bool (hasP p w g x y)) ∧ h' = h) := by
  obtain ⟨⟨k1, k2⟩, k3, k4⟩ := chk_facts hc
  rw [allRt_iff] at k4
  by_cases hin : (0 ≤ x ∧ x < w) ∧ 0 ≤ y ∧ y < g
  rotate_left
  · rw [show hasP p w g x y = false by unfold hasP; rw [decide_eq_false hin]; rfl]
    clear k1 k2 k3 k4 hc
    rw [pn_enc]
    refine ACalls.intro Try.func21 rfl Try.ntmps21 Try.results21 (Nat.le_of_ble_eq_true rfl) ?_
    (repeat' (first | (refine iS ?_; refine iMu ?_; refine S.mapU ?_) | refine svz ⟨fun b hq => ?_⟩ | refine sv1 ?_ | refine svs ⟨?_⟩ | refine svu ⟨fun u => ?_⟩ | (refine svg (fun hg => ?_) (fun hg => ?_) <;> try (exfalso; first | omega | contradiction)) | (refine svc (fun hc => ?_) (fun hc => ?_) <;> try (exfalso; first | omega | contradiction)) | refine sv2 ?_ | refine svh (fun hb => ?_) (fun hb => ?_) | refine svb (fun b => ?_) | refine sva ?_ | refine sv3 ?_))
    all_goals first | exact fin_r (h' := h) ⟨rfl, rfl⟩ | omega
  have e0 : hasP p w g x y = (!p.cl || hasF (clP p) x y) := by unfold hasP; rw [decide_eq_true hin]; rfl
  rw [e0]
  clear e0
  obtain ⟨⟨i1, i2⟩, i3, i4⟩ := hin
  obtain ⟨fn, pl, fo, ba, ft, px, py, cl, l⟩ := p
  cases cl with
  | false =>
    clear k1 k2 k3 k4 hc
    rw [pn_enc]
    refine ACalls.intro Try.func21 rfl Try.ntmps21 Try.results21 (Nat.le_of_ble_eq_true rfl) ?_
    (repeat' (first | (refine iS ?_; refine iMu ?_; refine S.mapU ?_) | refine svz ⟨fun b hq => ?_⟩ | refine sv1 ?_ | refine svs ⟨?_⟩ | refine svu ⟨fun u => ?_⟩ | (refine svg (fun hg => ?_) (fun hg => ?_) <;> try (exfalso; first | omega | contradiction)) | (refine svc (fun hc => ?_) (fun hc => ?_) <;> try (exfalso; first | omega | contradiction)) | refine sv2 ?_ | refine svh (fun hb => ?_) (fun hb => ?_) | refine svb (fun b => ?_) | refine sva ?_ | refine sv3 ?_))
    exact fin_r (h' := h) ⟨rfl, rfl⟩
  | true =>
    have e1 : (!true || hasF (clP ⟨fn, pl, fo, ba, ft, px, py, true, l⟩) x y) = hasF (l.map (shR px py)) x y := by simp [clP]
    rw [pn_enc]
    dsimp only at *
    rw [e1]
    clear e1 hc
    have yes : ∀ k, hasF ((l.take k).map (shR px py)) x y = true → hasF (l.map (shR px py)) x y = true := fun k e => by
      obtain ⟨r, hr, q⟩ := hasF_iff.1 e
      exact hasF_iff.2 ⟨r, List.mem_map.2 (by obtain ⟨z, hz, e⟩ := List.mem_map.1 hr; exact ⟨z, List.mem_of_mem_take hz, e⟩), q⟩
    have no : hasF ((l.take l.length).map (shR px py)) x y = hasF (l.map (shR px py)) x y := by rw [List.take_length]
    have stp : ∀ k r, l[k]? = some r → hasF ((l.take k).map (shR px py)) x y = false → hasF ((l.take (k + 1)).map (shR px py)) x y = decide ((r.x + px ≤ x ∧ x < r.x + px + r.w) ∧ r.y + py ≤ y ∧ y < r.y + py + r.h) := fun k r hr e => by
      rw [show l.take (k + 1) = l.take k ++ [r] by rw [List.take_add_one, hr]; rfl, List.map_append, List.map_singleton, hasF_snoc, e, sh_rt k1 k2 (k4 r (List.mem_of_getElem? hr))]
      rfl
    generalize hasF (l.map (shR px py)) x y = res at *
    obtain ⟨k1, k1'⟩ := (show -32768 ≤ px ∧ px ≤ 32767 from k1)
    obtain ⟨k2, k2'⟩ := (show -32768 ≤ py ∧ py ≤ 32767 from k2)
    refine ACalls.intro Try.func21 rfl Try.ntmps21 Try.results21 (Nat.le_of_ble_eq_true rfl) ?_
    (repeat' (first | (refine iS ?_; refine iMu ?_; refine S.mapU ?_) | refine svz ⟨fun b hq => ?_⟩ | refine sv1 ?_ | refine svs ⟨?_⟩ | refine svu ⟨fun u => ?_⟩ | (refine svg (fun hg => ?_) (fun hg => ?_) <;> try (exfalso; first | omega | contradiction)) | (refine svc (fun hc => ?_) (fun hc => ?_) <;> try (exfalso; first | omega | contradiction)) | refine sv2 ?_ | refine svh (fun hb => ?_) (fun hb => ?_) | refine svb (fun b => ?_) | refine sva ?_ | refine sv3 ?_))
    revert b; intro b5
    refine W.loop (J := fun k : Nat => ⟨84, [(11, .val (.int .i64 (k))), (10, .val (.bool false)), (5, .val (.pointer (some ⟨b5, 0, none⟩))), (3, .val (.int .i64 (x))), (4, .val (.int .i64 (y)))], .box b5 [.val (.int .i64 (fn)), .val (.int .u8 (pl)), .val (.int .u8 (fo)), .val (.int .u8 (ba)), .val (.int .u32 ft), .val (.int .i64 (px)), .val (.int .i64 (py)), .val (.bool true), .ro 4 (l.map RC.enc)] 34 :: h⟩)
      (Φ := fun k => k ≤ l.length ∧ hasF ((l.take k).map (shR px py)) x y = false) (μ := fun k => l.length - k) 0 lee ⟨Nat.zero_le _, rfl⟩ ?_
    rintro k ⟨hk, hn⟩
    rcases Nat.lt_or_ge k l.length with hlt | hge
    · obtain ⟨r, hx⟩ : ∃ r, l[k]? = some r := ⟨_, List.getElem?_eq_getElem hlt⟩
      obtain ⟨⟨a1, a2⟩, a3, a4⟩ := k4 r (List.mem_of_getElem? hx)
      have st := stp k r hx hn
      have ys := yes (k + 1)
      rw [st] at ys
      clear yes no stp hn k4
      have ys : Hold _ := ⟨ys⟩
      have st : Hold _ := ⟨st⟩
      unfold placeP at a1 a2; unfold sideP at a3 a4
      (repeat' (first | (refine iS ?_; refine iMu ?_; refine S.mapU ?_) | refine svz ⟨fun b hq => ?_⟩ | refine sv1 ?_ | refine svs ⟨?_⟩ | refine svu ⟨fun u => ?_⟩ | (refine svg (fun hg => ?_) (fun hg => ?_) <;> try (exfalso; first | omega | contradiction)) | (refine svc (fun hc => ?_) (fun hc => ?_) <;> try (exfalso; first | omega | contradiction)) | refine sv2 ?_ | refine svh (fun hb => ?_) (fun hb => ?_) | refine svb (fun b => ?_) | refine sva ?_ | refine sv3 ?_))
      all_goals first
        | (have e := ys.out (decide_eq_true (by omega)); subst e; exact fin_r (h' := h) ⟨rfl, rfl⟩)
        | exact ⟨k + 1, ⟨hlt, by rw [st.out]; exact decide_eq_false (by omega)⟩, lee, by omega⟩
    · have e : k = l.length := by omega
      subst e
      rw [no] at hn
      subst hn
      clear yes no stp
      (repeat' (first | (refine iS ?_; refine iMu ?_; refine S.mapU ?_) | refine svz ⟨fun b hq => ?_⟩ | refine sv1 ?_ | refine svs ⟨?_⟩ | refine svu ⟨fun u => ?_⟩ | (refine svg (fun hg => ?_) (fun hg => ?_) <;> try (exfalso; first | omega | contradiction)) | (refine svc (fun hc => ?_) (fun hc => ?_) <;> try (exfalso; first | omega | contradiction)) | refine sv2 ?_ | refine svh (fun hb => ?_) (fun hb => ?_) | refine svb (fun b => ?_) | refine sva ?_ | refine sv3 ?_))
      exact fin_r (h' := h) ⟨rfl, rfl⟩
end Go.Proofs.Ytmfbfbhkjclhkaa
