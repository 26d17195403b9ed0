/- The library's functions on slices of rectangles. No condition. -/
import Derived.Test.YtdknjjgmmmmfjaaB8
namespace Go.VM
open Go
theorem ACalls.keep1 {P : Program} {g : Nat} {vs : List AV} {h : Heap} {v : AV} {x : OE} (k : ACalls P g vs h (fun r h' => r = v ∧ h' = h)) : ACalls P g vs (x :: h) (fun r h' => r = v ∧ h' = x :: h) :=
  (k.beside [x]).mono fun r h' ⟨h1, ⟨e1, e2⟩, e3⟩ => ⟨e1, by rw [e3, e2]; rfl⟩
theorem ACalls.keep2 {P : Program} {g : Nat} {vs : List AV} {h : Heap} {v : AV} {x y : OE} (k : ACalls P g vs h (fun r h' => r = v ∧ h' = h)) : ACalls P g vs (x :: y :: h) (fun r h' => r = v ∧ h' = x :: y :: h) := k.keep1.keep1
end Go.VM
namespace Go.Proofs.Ytdknjjgmmmmfjaa
open Go Go.VM
attribute [local irreducible] PurV Pur Step RL W D ACalls Then InBlock Fini
set_option linter.unusedVariables false
set_option linter.unusedSimpArgs false
set_option maxHeartbeats 20000000
/-- The first one's place. -/
def idxF (p : RC → Bool) (l : List RC) : Int := match l.findIdx? p with
  | some i => (i : Int)
  | none => -1
theorem idxF_some {p : RC → Bool} {l : List RC} {k : Nat} {r : RC} (h1 : ∀ x ∈ l.take k, p x = false) (hx : l[k]? = some r) (hr : p r = true) : idxF p l = (k : Int) := by
  unfold idxF
  have : l.findIdx? p = some k := by
    rw [List.findIdx?_eq_some_iff_getElem]
    obtain ⟨hk, e⟩ := List.getElem?_eq_some_iff.1 hx
    refine ⟨hk, by rw [e]; exact hr, fun j hj => ?_⟩
    have := h1 l[j] (List.mem_take_iff_getElem.2 ⟨j, by omega, rfl⟩)
    simp [this]
  rw [this]
theorem idxF_none {p : RC → Bool} {l : List RC} (h1 : ∀ x ∈ l, p x = false) : idxF p l = -1 := by
  unfold idxF
  have : l.findIdx? p = none := List.findIdx?_eq_none_iff.2 h1
  rw [this]
set_option maxRecDepth 100000 in
theorem indexfunc_c (p : RC → Bool) (l : List RC) (v : Value) (e : Nat) {fv : AV} {f : Nat} {caps : List AV} [TFun Try.prog f] (hF : Fv fv f caps) (h : Heap) (hl : l.length ≤ 1000000)
    (hp : ∀ r ∈ l, ACalls Try.prog f (r.enc :: caps) h (fun z h' => z = .val (.bool (p r)) ∧ h' = h)) :
    ACalls Try.prog 66 [.val v, fv] (.own v 4 (l.map RC.enc) e :: h) (fun r h' => r = .val (.int .i64 (idxF p l)) ∧ h' = .own v 4 (l.map RC.enc) e :: h) := by
  refine ACalls.intro Try.func66 rfl Try.ntmps66 Try.results66 (Nat.le_of_ble_eq_true rfl) ?_
  (repeat' (first | (refine iS ?_; refine iMu ?_; refine S.mapU ?_) | refine svz ⟨fun b hq => ?_⟩ | refine sv1 ?_ | refine svs ⟨?_⟩ | refine svu ⟨fun u => ?_⟩ | (refine svg (fun hg => ?_) (fun hg => ?_) <;> try (exfalso; first | omega | contradiction)) | (refine svc (fun hc => ?_) (fun hc => ?_) <;> try (exfalso; first | omega | contradiction)) | refine sv2 ?_ | refine svh (fun hb => ?_) (fun hb => ?_) | refine svb (fun b => ?_) | refine sva ?_ | refine sv3 ?_))
  refine W.loop (J := fun k : Nat => ⟨19, [(8, .val (.int .i64 (k : Int))), (7, .val (.int .i64 (l.length : Int))), (6, .val v), (0, .val v), (1, fv)], .own v 4 (l.map RC.enc) e :: h⟩)
    (Φ := fun k => k ≤ l.length ∧ ∀ x ∈ l.take k, p x = false) (μ := fun k => l.length - k) 0 lee ⟨Nat.zero_le _, by simp⟩ ?_
  rintro k ⟨hk, hn⟩
  rcases Nat.lt_or_ge k l.length with hlt | hge
  · obtain ⟨r, hx⟩ : ∃ r, l[k]? = some r := ⟨_, List.getElem?_eq_getElem hlt⟩
    have hr : r ∈ l := List.mem_of_getElem? hx
    (repeat' (first | (refine iS ?_; refine iMu ?_; refine S.mapU ?_) | refine svz ⟨fun b hq => ?_⟩ | refine sv1 ?_ | refine svs ⟨?_⟩ | refine svu ⟨fun u => ?_⟩ | (refine svg (fun hg => ?_) (fun hg => ?_) <;> try (exfalso; first | omega | contradiction)) | (refine svc (fun hc => ?_) (fun hc => ?_) <;> try (exfalso; first | omega | contradiction)) | refine sv2 ?_ | refine svh (fun hb => ?_) (fun hb => ?_) | refine svb (fun b => ?_) | refine sva ?_ | refine sv3 ?_))
    refine S.callv hF ?_
    refine (hp r hr).keep1.mono ?_
    rintro z h' ⟨rfl, hh⟩; subst hh
    cases hpr : p r with
    | true =>
      rw [idxF_some hn hx hpr]
      (repeat' (first | (refine iS ?_; refine iMu ?_; refine S.mapU ?_) | refine svz ⟨fun b hq => ?_⟩ | refine sv1 ?_ | refine svs ⟨?_⟩ | refine svu ⟨fun u => ?_⟩ | (refine svg (fun hg => ?_) (fun hg => ?_) <;> try (exfalso; first | omega | contradiction)) | (refine svc (fun hc => ?_) (fun hc => ?_) <;> try (exfalso; first | omega | contradiction)) | refine sv2 ?_ | refine svh (fun hb => ?_) (fun hb => ?_) | refine svb (fun b => ?_) | refine sva ?_ | refine sv3 ?_))
      exact fin_r (h' := _) ⟨rfl, rfl⟩
    | false =>
      (repeat' (first | (refine iS ?_; refine iMu ?_; refine S.mapU ?_) | refine svz ⟨fun b hq => ?_⟩ | refine sv1 ?_ | refine svs ⟨?_⟩ | refine svu ⟨fun u => ?_⟩ | (refine svg (fun hg => ?_) (fun hg => ?_) <;> try (exfalso; first | omega | contradiction)) | (refine svc (fun hc => ?_) (fun hc => ?_) <;> try (exfalso; first | omega | contradiction)) | refine sv2 ?_ | refine svh (fun hb => ?_) (fun hb => ?_) | refine svb (fun b => ?_) | refine sva ?_ | refine sv3 ?_))
      refine ⟨k + 1, ⟨hlt, fun y hy => ?_⟩, lee, by omega⟩
      rw [List.take_add_one, hx] at hy
      rcases List.mem_append.1 hy with hy | hy
      · exact hn y hy
      · simp at hy; rw [hy]; exact hpr
  · rw [List.take_of_length_le hge] at hn
    rw [idxF_none hn]
    (repeat' (first | (refine iS ?_; refine iMu ?_; refine S.mapU ?_) | refine svz ⟨fun b hq => ?_⟩ | refine sv1 ?_ | refine svs ⟨?_⟩ | refine svu ⟨fun u => ?_⟩ | (refine svg (fun hg => ?_) (fun hg => ?_) <;> try (exfalso; first | omega | contradiction)) | (refine svc (fun hc => ?_) (fun hc => ?_) <;> try (exfalso; first | omega | contradiction)) | refine sv2 ?_ | refine svh (fun hb => ?_) (fun hb => ?_) | refine svb (fun b => ?_) | refine sva ?_ | refine sv3 ?_))
    exact fin_r (h' := _) ⟨rfl, rfl⟩
end Go.Proofs.Ytdknjjgmmmmfjaa
