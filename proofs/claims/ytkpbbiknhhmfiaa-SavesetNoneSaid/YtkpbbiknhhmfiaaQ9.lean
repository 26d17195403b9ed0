/- Places: coord, side, New, twin. No condition. -/
import Derived.Test.YtkpbbiknhhmfiaaQ8
import Derived.Test.YtkpbbiknhhmfiaaVM36
import Derived.Test.YtkpbbiknhhmfiaaLay
namespace Go.Proofs.Ytkpbbiknhhmfiaa
open Go Go.VM
attribute [local irreducible] PurV Pur Step RL W D ACalls Then InBlock Fini
set_option linter.unusedVariables false
set_option linter.unusedSimpArgs false
set_option maxHeartbeats 20000000
structure BX where
  (x y w h : Int) (m : Bool) (g : Int)
deriving DecidableEq
def vBox (b : BX) : AV := .agg [.val (.int .i64 (b.x)), .val (.int .i64 (b.y)), .val (.int .i64 (b.w)), .val (.int .i64 (b.h)), .val (.bool (b.m)), .val (.int .i64 (b.g)), .val (.int .i64 (b.g)), .val (.bool false), .val (.slice none 0 0)]
abbrev PT := List (Int × BX)
def encP (t : PT) : AV := .agg [mapV .u32 vBox t]
set_option maxRecDepth 100000 in
theorem coord_c (x : Int) (h : Heap) : ACalls Try.prog 47 [.val (.int .i64 (x))] h (fun r h' => r = .val (.bool (decide (-32768 ≤ x ∧ x ≤ 32767))) ∧ h' = h) := by
  refine ACalls.intro Try.func47 rfl Try.ntmps47 Try.results47 (Nat.le_of_ble_eq_true rfl) ?_
  by_cases h1 : -32768 ≤ x
  · (repeat' (first | (refine iS ?_; refine iMu ?_; refine S.mapU ?_) | refine svz ⟨fun b hq => ?_⟩ | refine sv1 ?_ | refine svs ⟨?_⟩ | refine svu ⟨fun u => ?_⟩ | (refine svg (fun hg => ?_) (fun hg => ?_) <;> try (exfalso; first | omega | contradiction)) | (refine svc (fun hc => ?_) (fun hc => ?_) <;> try (exfalso; first | omega | contradiction)) | refine sv2 ?_ | refine svh (fun hb => ?_) (fun hb => ?_) | refine svb (fun b => ?_) | refine sva ?_ | refine sv3 ?_))
    refine fin_r (h' := h) ⟨?_, rfl⟩; simp [tupA, h1]
  · (repeat' (first | (refine iS ?_; refine iMu ?_; refine S.mapU ?_) | refine svz ⟨fun b hq => ?_⟩ | refine sv1 ?_ | refine svs ⟨?_⟩ | refine svu ⟨fun u => ?_⟩ | (refine svg (fun hg => ?_) (fun hg => ?_) <;> try (exfalso; first | omega | contradiction)) | (refine svc (fun hc => ?_) (fun hc => ?_) <;> try (exfalso; first | omega | contradiction)) | refine sv2 ?_ | refine svh (fun hb => ?_) (fun hb => ?_) | refine svb (fun b => ?_) | refine sva ?_ | refine sv3 ?_))
    refine fin_r (h' := h) ⟨?_, rfl⟩; simp [tupA, h1]
set_option maxRecDepth 100000 in
theorem side_c (x : Int) (h : Heap) : ACalls Try.prog 48 [.val (.int .i64 (x))] h (fun r h' => r = .val (.bool (decide (1 ≤ x ∧ x ≤ 128))) ∧ h' = h) := by
  refine ACalls.intro Try.func48 rfl Try.ntmps48 Try.results48 (Nat.le_of_ble_eq_true rfl) ?_
  by_cases h1 : 1 ≤ x
  · (repeat' (first | (refine iS ?_; refine iMu ?_; refine S.mapU ?_) | refine svz ⟨fun b hq => ?_⟩ | refine sv1 ?_ | refine svs ⟨?_⟩ | refine svu ⟨fun u => ?_⟩ | (refine svg (fun hg => ?_) (fun hg => ?_) <;> try (exfalso; first | omega | contradiction)) | (refine svc (fun hc => ?_) (fun hc => ?_) <;> try (exfalso; first | omega | contradiction)) | refine sv2 ?_ | refine svh (fun hb => ?_) (fun hb => ?_) | refine svb (fun b => ?_) | refine sva ?_ | refine sv3 ?_))
    refine fin_r (h' := h) ⟨?_, rfl⟩; simp [tupA, h1]
  · (repeat' (first | (refine iS ?_; refine iMu ?_; refine S.mapU ?_) | refine svz ⟨fun b hq => ?_⟩ | refine sv1 ?_ | refine svs ⟨?_⟩ | refine svu ⟨fun u => ?_⟩ | (refine svg (fun hg => ?_) (fun hg => ?_) <;> try (exfalso; first | omega | contradiction)) | (refine svc (fun hc => ?_) (fun hc => ?_) <;> try (exfalso; first | omega | contradiction)) | refine sv2 ?_ | refine svh (fun hb => ?_) (fun hb => ?_) | refine svb (fun b => ?_) | refine sva ?_ | refine sv3 ?_))
    refine fin_r (h' := h) ⟨?_, rfl⟩; simp [tupA, h1]
set_option maxRecDepth 100000 in
theorem grav_c (x : Int) (h : Heap) (h0 : 0 ≤ x) (h1 : x ≤ 10) : ACalls Try.prog 49 [.val (.int .i64 (x))] h (fun r h' => r = .val (.int .i64 (0)) ∧ h' = h) := by
  refine ACalls.intro Try.func49 rfl Try.ntmps49 Try.results49 (Nat.le_of_ble_eq_true rfl) ?_
  (repeat' (first | (refine iS ?_; refine iMu ?_; refine S.mapU ?_) | refine svz ⟨fun b hq => ?_⟩ | refine sv1 ?_ | refine svs ⟨?_⟩ | refine svu ⟨fun u => ?_⟩ | (refine svg (fun hg => ?_) (fun hg => ?_) <;> try (exfalso; first | omega | contradiction)) | (refine svc (fun hc => ?_) (fun hc => ?_) <;> try (exfalso; first | omega | contradiction)) | refine sv2 ?_ | refine svh (fun hb => ?_) (fun hb => ?_) | refine svb (fun b => ?_) | refine sva ?_ | refine sv3 ?_))
  exact fin_r (h' := h) ⟨rfl, rfl⟩
set_option maxRecDepth 100000 in
theorem empty_c (h : Heap) : ACalls Try.prog 50 [.agg [.val (.slice none 0 0)]] h (fun r h' => r = .val (.bool (true)) ∧ h' = h) := by
  refine ACalls.intro Try.func50 rfl Try.ntmps50 Try.results50 (Nat.le_of_ble_eq_true rfl) ?_
  (repeat' (first | (refine iS ?_; refine iMu ?_; refine S.mapU ?_) | refine svz ⟨fun b hq => ?_⟩ | refine sv1 ?_ | refine svs ⟨?_⟩ | refine svu ⟨fun u => ?_⟩ | (refine svg (fun hg => ?_) (fun hg => ?_) <;> try (exfalso; first | omega | contradiction)) | (refine svc (fun hc => ?_) (fun hc => ?_) <;> try (exfalso; first | omega | contradiction)) | refine sv2 ?_ | refine svh (fun hb => ?_) (fun hb => ?_) | refine svb (fun b => ?_) | refine sva ?_ | refine sv3 ?_))
  refine fin_r (h' := h) ⟨?_, rfl⟩; simp [tupA]
def rootB (w h : Int) : BX := ⟨0, 0, w, h, true, 1⟩
set_option maxRecDepth 100000 in
theorem pnew_c (x y : Int) (h : Heap) (hx : 1 ≤ x ∧ x ≤ 128) (hy : 1 ≤ y ∧ y ≤ 128) : ACalls Try.prog 30 [.val (.int .i64 (x)), .val (.int .i64 (y))] h (fun r h' => r = .tup [encP [(1, rootB x y)], .val (.int .i64 (0))] ∧ h' = h) := by
  have s1 := fun h => side_c x h
  have s2 := fun h => side_c y h
  rw [decide_eq_true hx] at s1
  rw [decide_eq_true hy] at s2
  unfold encP
  refine ACalls.intro Try.func30 rfl Try.ntmps30 Try.results30 (Nat.le_of_ble_eq_true rfl) ?_
  (repeat' (first | (refine iS ?_; refine iMu ?_; refine S.mapU ?_) | refine svz ⟨fun b hq => ?_⟩ | refine sv1 ?_ | refine svs ⟨?_⟩ | refine svu ⟨fun u => ?_⟩ | (refine svg (fun hg => ?_) (fun hg => ?_) <;> try (exfalso; first | omega | contradiction)) | (refine svc (fun hc => ?_) (fun hc => ?_) <;> try (exfalso; first | omega | contradiction)) | refine sv2 ?_ | refine svh (fun hb => ?_) (fun hb => ?_) | refine svb (fun b => ?_) | refine sva ?_ | refine sv3 ?_))
  refine S.call ?_; refine (s1 _).mono ?_; rintro r h' ⟨rfl, hh⟩; subst hh
  (repeat' (first | (refine iS ?_; refine iMu ?_; refine S.mapU ?_) | refine svz ⟨fun b hq => ?_⟩ | refine sv1 ?_ | refine svs ⟨?_⟩ | refine svu ⟨fun u => ?_⟩ | (refine svg (fun hg => ?_) (fun hg => ?_) <;> try (exfalso; first | omega | contradiction)) | (refine svc (fun hc => ?_) (fun hc => ?_) <;> try (exfalso; first | omega | contradiction)) | refine sv2 ?_ | refine svh (fun hb => ?_) (fun hb => ?_) | refine svb (fun b => ?_) | refine sva ?_ | refine sv3 ?_))
  refine S.call ?_; refine (s2 _).mono ?_; rintro r h' ⟨rfl, hh⟩; subst hh
  (repeat' (first | (refine iS ?_; refine iMu ?_; refine S.mapU ?_) | refine svz ⟨fun b hq => ?_⟩ | refine sv1 ?_ | refine svs ⟨?_⟩ | refine svu ⟨fun u => ?_⟩ | (refine svg (fun hg => ?_) (fun hg => ?_) <;> try (exfalso; first | omega | contradiction)) | (refine svc (fun hc => ?_) (fun hc => ?_) <;> try (exfalso; first | omega | contradiction)) | refine sv2 ?_ | refine svh (fun hb => ?_) (fun hb => ?_) | refine svb (fun b => ?_) | refine sva ?_ | refine sv3 ?_))
  refine S.mkm0 vBox (fun bm => ?_)
  (repeat' (first | (refine iS ?_; refine iMu ?_; refine S.mapU ?_) | refine svz ⟨fun b hq => ?_⟩ | refine sv1 ?_ | refine svs ⟨?_⟩ | refine svu ⟨fun u => ?_⟩ | (refine svg (fun hg => ?_) (fun hg => ?_) <;> try (exfalso; first | omega | contradiction)) | (refine svc (fun hc => ?_) (fun hc => ?_) <;> try (exfalso; first | omega | contradiction)) | refine sv2 ?_ | refine svh (fun hb => ?_) (fun hb => ?_) | refine svb (fun b => ?_) | refine sva ?_ | refine sv3 ?_))
  refine S.ins (f := vBox) (m := []) (a := rootB x y) ?_
  rw [show putF ([] : PT) 1 (rootB x y) = [(1, rootB x y)] from rfl]
  generalize ([(1, rootB x y)] : PT) = t1
  refine RL.frzm (b := bm) (by (fail_if_success (apply tkG)); (repeat (first | exact Tk.here | apply Tk.there)); first | done | fail) (by repeat' (first | apply FzT.cons | exact FzT.rest _ | exact Fz.hit | apply Fz.aggc | apply Fz.tupc | exact Fz.aggn | exact Fz.tupn | exact Fz.keep _)) (by repeat' (first | apply FzH.box | apply FzH.keep | exact FzH.rest _ | exact Fz.hit | apply Fz.aggc | apply Fz.tupc | exact Fz.aggn | exact Fz.tupn | exact Fz.keep _)) ?_
  (repeat' (first | (refine iS ?_; refine iMu ?_; refine S.mapU ?_) | refine svz ⟨fun b hq => ?_⟩ | refine sv1 ?_ | refine svs ⟨?_⟩ | refine svu ⟨fun u => ?_⟩ | (refine svg (fun hg => ?_) (fun hg => ?_) <;> try (exfalso; first | omega | contradiction)) | (refine svc (fun hc => ?_) (fun hc => ?_) <;> try (exfalso; first | omega | contradiction)) | refine sv2 ?_ | refine svh (fun hb => ?_) (fun hb => ?_) | refine svb (fun b => ?_) | refine sva ?_ | refine sv3 ?_))
  exact fin_r (h' := h) ⟨rfl, rfl⟩
theorem mapV_keys {t : PT} (h : t ≠ []) : (t.map fun p => (Value.int .u32 p.1)) ≠ [] := fun e => h (List.map_eq_nil_iff.1 e)
theorem mcl_c (t : PT) (h : Heap) (hne : t ≠ []) : ACalls Try.prog 61 [mapV .u32 vBox t] h (fun r h' => ∃ b, r = .val (.map (some b)) ∧ h' = mpV b .u32 vBox t :: h) :=
  mclone_c Try.cloneB (mapV_keys hne) h
set_option maxRecDepth 100000 in
theorem ptwin_c (t : PT) (h : Heap) (hne : t ≠ []) : ACalls Try.prog 51 [encP t] h (fun r h' => ∃ b, r = .agg [.val (.map (some b))] ∧ h' = mpV b .u32 vBox t :: h) := by
  unfold encP
  refine ACalls.intro Try.func51 rfl Try.ntmps51 Try.results51 (Nat.le_of_ble_eq_true rfl) ?_
  (repeat' (first | (refine iS ?_; refine iMu ?_; refine S.mapU ?_) | refine svz ⟨fun b hq => ?_⟩ | refine sv1 ?_ | refine svs ⟨?_⟩ | refine svu ⟨fun u => ?_⟩ | (refine svg (fun hg => ?_) (fun hg => ?_) <;> try (exfalso; first | omega | contradiction)) | (refine svc (fun hc => ?_) (fun hc => ?_) <;> try (exfalso; first | omega | contradiction)) | refine sv2 ?_ | refine svh (fun hb => ?_) (fun hb => ?_) | refine svb (fun b => ?_) | refine sva ?_ | refine sv3 ?_))
  refine S.call ?_
  refine (mcl_c t _ hne).mono ?_
  rintro r h' ⟨b7, rfl, hh⟩
  subst hh
  (repeat' (first | (refine iS ?_; refine iMu ?_; refine S.mapU ?_) | refine svz ⟨fun b hq => ?_⟩ | refine sv1 ?_ | refine svs ⟨?_⟩ | refine svu ⟨fun u => ?_⟩ | (refine svg (fun hg => ?_) (fun hg => ?_) <;> try (exfalso; first | omega | contradiction)) | (refine svc (fun hc => ?_) (fun hc => ?_) <;> try (exfalso; first | omega | contradiction)) | refine sv2 ?_ | refine svh (fun hb => ?_) (fun hb => ?_) | refine svb (fun b => ?_) | refine sva ?_ | refine sv3 ?_))
  exact fin_r (h' := mpV b7 .u32 vBox t :: h) ⟨b7, rfl, rfl⟩
end Go.Proofs.Ytkpbbiknhhmfiaa
