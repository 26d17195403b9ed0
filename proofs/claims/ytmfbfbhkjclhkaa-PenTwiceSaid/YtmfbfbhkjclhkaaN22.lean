/- PenTwice. No condition. -/
import Derived.Test.YtmfbfbhkjclhkaaN18
import Derived.Test.YtmfbfbhkjclhkaaVM31
namespace Go.Proofs.Ytmfbfbhkjclhkaa
open Go Go.VM
attribute [local irreducible] PurV Pur Step RL W D ACalls Then InBlock Fini
set_option linter.unusedVariables false
set_option linter.unusedSimpArgs false
set_option maxHeartbeats 20000000
theorem bits_32 : (List.range 32).all (fun x => (List.range 32).all fun y => bitsI .and .i64 (x : Int) (y : Int) == ((x &&& y : Nat) : Int) && bitsI .or .i64 (x : Int) (y : Int) == ((x ||| y : Nat) : Int)) = true := by decide +kernel
theorem bit_32 {x y : Nat} (hx : x < 32) (hy : y < 32) : bitsI .and .i64 (x : Int) (y : Int) = ((x &&& y : Nat) : Int) ∧ bitsI .or .i64 (x : Int) (y : Int) = ((x ||| y : Nat) : Int) := by
  have h := List.all_eq_true.1 (List.all_eq_true.1 bits_32 x (List.mem_range.2 hx)) y (List.mem_range.2 hy)
  rw [Bool.and_eq_true, beq_iff_eq, beq_iff_eq] at h
  exact h
set_option maxRecDepth 100000 in
theorem twice_c (p : PN) (a e : Int) (n0 n1 n2 n3 n4 : Int) (hp : p.clip.length ≤ maxLen) (ha : 0 ≤ a ∧ a ≤ 255) (he : 0 ≤ e ∧ e ≤ 255) : ACalls Try.prog 8 [p.enc, .val (.int .u8 (a)), .val (.int .u8 (e)), .agg (ints .i64 [n0, n1, n2, n3, n4])] [] (fun r h' => r = .val (.bool true)) := by
  have fw := fun h => few_c p h (by unfold maxLen at hp; omega)
  by_cases hl : p.clip.length ≤ 300
  rotate_left
  · rw [decide_eq_false hl] at fw
    simp only [pn_enc] at *
    refine ACalls.intro Try.func8 rfl Try.ntmps8 Try.results8 (Nat.le_of_ble_eq_true rfl) ?_
    (repeat' (first | (refine iS ?_; refine iMu ?_; refine S.mapU ?_) | refine svz ⟨fun b hq => ?_⟩ | refine sv1 ?_ | refine svs ⟨?_⟩ | refine svu ⟨fun u => ?_⟩ | (refine svg (fun hg => ?_) (fun hg => ?_) <;> try (exfalso; first | omega | contradiction)) | (refine svc (fun hc => ?_) (fun hc => ?_) <;> try (exfalso; first | omega | contradiction)) | refine sv2 ?_ | refine svh (fun hb => ?_) (fun hb => ?_) | refine svb (fun b => ?_) | refine sva ?_ | refine sv3 ?_))
    refine S.call ?_; refine (fw _).mono ?_; rintro r h' ⟨rfl, hh⟩; subst hh
    (repeat' (first | (refine iS ?_; refine iMu ?_; refine S.mapU ?_) | refine svz ⟨fun b hq => ?_⟩ | refine sv1 ?_ | refine svs ⟨?_⟩ | refine svu ⟨fun u => ?_⟩ | (refine svg (fun hg => ?_) (fun hg => ?_) <;> try (exfalso; first | omega | contradiction)) | (refine svc (fun hc => ?_) (fun hc => ?_) <;> try (exfalso; first | omega | contradiction)) | refine sv2 ?_ | refine svh (fun hb => ?_) (fun hb => ?_) | refine svb (fun b => ?_) | refine sva ?_ | refine sv3 ?_))
    refine S.call ?_; refine (awake_c _).mono ?_; rintro r h' ⟨rfl, hh⟩; subst hh
    (repeat' (first | (refine iS ?_; refine iMu ?_; refine S.mapU ?_) | refine svz ⟨fun b hq => ?_⟩ | refine sv1 ?_ | refine svs ⟨?_⟩ | refine svu ⟨fun u => ?_⟩ | (refine svg (fun hg => ?_) (fun hg => ?_) <;> try (exfalso; first | omega | contradiction)) | (refine svc (fun hc => ?_) (fun hc => ?_) <;> try (exfalso; first | omega | contradiction)) | refine sv2 ?_ | refine svh (fun hb => ?_) (fun hb => ?_) | refine svb (fun b => ?_) | refine sva ?_ | refine sv3 ?_))
    exact fin_r (h' := _) rfl
  rw [decide_eq_true hl] at fw
  obtain ⟨x, hx⟩ : ∃ x : Nat, a % 32 = (x : Int) := ⟨(a % 32).toNat, by omega⟩
  obtain ⟨y, hy⟩ : ∃ y : Nat, e % 32 = (y : Int) := ⟨(e % 32).toNat, by omega⟩
  have hx2 : x < 32 := by omega
  have hy2 : y < 32 := by omega
  obtain ⟨ea, eo⟩ := bit_32 hx2 hy2
  rw [← hx, ← hy] at ea eo
  by_cases hz : x &&& y = 0
  rotate_left
  · have hne : bitsI .and .i64 (a % 32) (e % 32) ≠ 0 := by omega
    clear eo ea hx hy
    simp only [pn_enc] at *
    refine ACalls.intro Try.func8 rfl Try.ntmps8 Try.results8 (Nat.le_of_ble_eq_true rfl) ?_
    (repeat' (first | (refine iS ?_; refine iMu ?_; refine S.mapU ?_) | refine svz ⟨fun b hq => ?_⟩ | refine sv1 ?_ | refine svs ⟨?_⟩ | refine svu ⟨fun u => ?_⟩ | (refine svg (fun hg => ?_) (fun hg => ?_) <;> try (exfalso; first | omega | contradiction)) | (refine svc (fun hc => ?_) (fun hc => ?_) <;> try (exfalso; first | omega | contradiction)) | refine sv2 ?_ | refine svh (fun hb => ?_) (fun hb => ?_) | refine svb (fun b => ?_) | refine sva ?_ | refine sv3 ?_))
    refine S.call ?_; refine (fw _).mono ?_; rintro r h' ⟨rfl, hh⟩; subst hh
    (repeat' (first | (refine iS ?_; refine iMu ?_; refine S.mapU ?_) | refine svz ⟨fun b hq => ?_⟩ | refine sv1 ?_ | refine svs ⟨?_⟩ | refine svu ⟨fun u => ?_⟩ | (refine svg (fun hg => ?_) (fun hg => ?_) <;> try (exfalso; first | omega | contradiction)) | (refine svc (fun hc => ?_) (fun hc => ?_) <;> try (exfalso; first | omega | contradiction)) | refine sv2 ?_ | refine svh (fun hb => ?_) (fun hb => ?_) | refine svb (fun b => ?_) | refine sva ?_ | refine sv3 ?_))
    refine S.call ?_; refine (awake_c _).mono ?_; rintro r h' ⟨rfl, hh⟩; subst hh
    (repeat' (first | (refine iS ?_; refine iMu ?_; refine S.mapU ?_) | refine svz ⟨fun b hq => ?_⟩ | refine sv1 ?_ | refine svs ⟨?_⟩ | refine svu ⟨fun u => ?_⟩ | (refine svg (fun hg => ?_) (fun hg => ?_) <;> try (exfalso; first | omega | contradiction)) | (refine svc (fun hc => ?_) (fun hc => ?_) <;> try (exfalso; first | omega | contradiction)) | refine sv2 ?_ | refine svh (fun hb => ?_) (fun hb => ?_) | refine svb (fun b => ?_) | refine sva ?_ | refine sv3 ?_))
    exact fin_r (h' := _) rfl
  have law := twice_law (p := p) (n := [n0, n1, n2, n3, n4]) hx2 hy2 hz rfl
  rw [hz] at ea
  rw [← eo, ← hx, ← hy] at law
  clear eo hx hy hx2 hy2 hz
  have c1 := fun h => change_c p (a % 32) [n0, n1, n2, n3, n4] h hl (by simp)
  have c3 := fun h => change_c p (e % 32) [n0, n1, n2, n3, n4] h hl (by simp)
  have c5 := fun h => change_c p (bitsI .or .i64 (a % 32) (e % 32)) [n0, n1, n2, n3, n4] h hl (by simp)
  have l1 := chg_clip p (a % 32) [n0, n1, n2, n3, n4]
  have l3 := chg_clip p (e % 32) [n0, n1, n2, n3, n4]
  have l5 := chg_clip p (bitsI .or .i64 (a % 32) (e % 32)) [n0, n1, n2, n3, n4]
  generalize chgF p (a % 32) [n0, n1, n2, n3, n4] = R1 at *
  generalize chgF p (e % 32) [n0, n1, n2, n3, n4] = R3 at *
  generalize chgF p (bitsI .or .i64 (a % 32) (e % 32)) [n0, n1, n2, n3, n4] = R5 at *
  obtain ⟨P1, e1⟩ := R1
  obtain ⟨P3, e3⟩ := R3
  obtain ⟨P5, e5⟩ := R5
  dsimp only at *
  have m1 : P1.clip.length ≤ 300 := by rw [l1]; exact hl
  have m3 : P3.clip.length ≤ 300 := by rw [l3]; exact hl
  have m5 : P5.clip.length ≤ 300 := by rw [l5]; exact hl
  have c2 := fun h => change_c P1 (e % 32) [n0, n1, n2, n3, n4] h m1 (by simp)
  have c4 := fun h => change_c P3 (a % 32) [n0, n1, n2, n3, n4] h m3 (by simp)
  have l2 := chg_clip P1 (e % 32) [n0, n1, n2, n3, n4]
  have l4 := chg_clip P3 (a % 32) [n0, n1, n2, n3, n4]
  generalize chgF P1 (e % 32) [n0, n1, n2, n3, n4] = R2 at *
  generalize chgF P3 (a % 32) [n0, n1, n2, n3, n4] = R4 at *
  obtain ⟨P2, e2⟩ := R2
  obtain ⟨P4, e4⟩ := R4
  dsimp only at *
  have m2 : P2.clip.length ≤ 300 := by rw [l2]; exact m1
  have m4 : P4.clip.length ≤ 300 := by rw [l4]; exact m3
  have s1 := fun h => psame_c P5 p h m5 hl
  have s2 := fun h => psame_c P2 P4 h m2 m4
  have s3 := fun h => psame_c P2 P5 h m2 m5
  clear l1 l2 l3 l4 l5 m1 m2 m3 m4 m5
  have law : Hold _ := ⟨law⟩
  simp only [pn_enc] at *
  refine ACalls.intro Try.func8 rfl Try.ntmps8 Try.results8 (Nat.le_of_ble_eq_true rfl) ?_
  (repeat' (first | (refine iS ?_; refine iMu ?_; refine S.mapU ?_) | refine svz ⟨fun b hq => ?_⟩ | refine sv1 ?_ | refine svs ⟨?_⟩ | refine svu ⟨fun u => ?_⟩ | (refine svg (fun hg => ?_) (fun hg => ?_) <;> try (exfalso; first | omega | contradiction)) | (refine svc (fun hc => ?_) (fun hc => ?_) <;> try (exfalso; first | omega | contradiction)) | refine sv2 ?_ | refine svh (fun hb => ?_) (fun hb => ?_) | refine svb (fun b => ?_) | refine sva ?_ | refine sv3 ?_))
  rename_i b4
  revert b; intro b7
  refine Step.frzb (b := b7) (by (fail_if_success (apply tkG)); (repeat (first | exact Tk.here | apply Tk.there)); first | done | fail) (by simp [AV.cells, ints, AV.one]) (c := ints .i64 [n0, n1, n2, n3, n4]) (by repeat (first | apply FbT.hit | apply FbT.keep | exact FbT.rest _)) ?_
  refine S.call ?_; refine (fw _).mono ?_; rintro r h' ⟨rfl, hh⟩; subst hh
  (repeat' (first | (refine iS ?_; refine iMu ?_; refine S.mapU ?_) | refine svz ⟨fun b hq => ?_⟩ | refine sv1 ?_ | refine svs ⟨?_⟩ | refine svu ⟨fun u => ?_⟩ | (refine svg (fun hg => ?_) (fun hg => ?_) <;> try (exfalso; first | omega | contradiction)) | (refine svc (fun hc => ?_) (fun hc => ?_) <;> try (exfalso; first | omega | contradiction)) | refine sv2 ?_ | refine svh (fun hb => ?_) (fun hb => ?_) | refine svb (fun b => ?_) | refine sva ?_ | refine sv3 ?_))
  refine R2.T ?_ (hp := .l rfl (pur_slice_arr_rp (c := ints .i64 [n0, n1, n2, n3, n4]) (nn := 5) rfl rfl (by decide) (by decide)).pur)
  (repeat' (first | (refine iS ?_; refine iMu ?_; refine S.mapU ?_) | refine svz ⟨fun b hq => ?_⟩ | refine sv1 ?_ | refine svs ⟨?_⟩ | refine svu ⟨fun u => ?_⟩ | (refine svg (fun hg => ?_) (fun hg => ?_) <;> try (exfalso; first | omega | contradiction)) | (refine svc (fun hc => ?_) (fun hc => ?_) <;> try (exfalso; first | omega | contradiction)) | refine sv2 ?_ | refine svh (fun hb => ?_) (fun hb => ?_) | refine svb (fun b => ?_) | refine sva ?_ | refine sv3 ?_))
  refine R2.C (c1 _) ?_
  (repeat' (first | (refine iS ?_; refine iMu ?_; refine S.mapU ?_) | refine svz ⟨fun b hq => ?_⟩ | refine sv1 ?_ | refine svs ⟨?_⟩ | refine svu ⟨fun u => ?_⟩ | (refine svg (fun hg => ?_) (fun hg => ?_) <;> try (exfalso; first | omega | contradiction)) | (refine svc (fun hc => ?_) (fun hc => ?_) <;> try (exfalso; first | omega | contradiction)) | refine sv2 ?_ | refine svh (fun hb => ?_) (fun hb => ?_) | refine svb (fun b => ?_) | refine sva ?_ | refine sv3 ?_))
  revert b; intro b11
  refine R2.T ?_ (hp := .l rfl (pur_slice_arr_rp (c := ints .i64 [n0, n1, n2, n3, n4]) (nn := 5) rfl rfl (by decide) (by decide)).pur)
  (repeat' (first | (refine iS ?_; refine iMu ?_; refine S.mapU ?_) | refine svz ⟨fun b hq => ?_⟩ | refine sv1 ?_ | refine svs ⟨?_⟩ | refine svu ⟨fun u => ?_⟩ | (refine svg (fun hg => ?_) (fun hg => ?_) <;> try (exfalso; first | omega | contradiction)) | (refine svc (fun hc => ?_) (fun hc => ?_) <;> try (exfalso; first | omega | contradiction)) | refine sv2 ?_ | refine svh (fun hb => ?_) (fun hb => ?_) | refine svb (fun b => ?_) | refine sva ?_ | refine sv3 ?_))
  refine R2.C (c2 _) ?_
  (repeat' (first | (refine iS ?_; refine iMu ?_; refine S.mapU ?_) | refine svz ⟨fun b hq => ?_⟩ | refine sv1 ?_ | refine svs ⟨?_⟩ | refine svu ⟨fun u => ?_⟩ | (refine svg (fun hg => ?_) (fun hg => ?_) <;> try (exfalso; first | omega | contradiction)) | (refine svc (fun hc => ?_) (fun hc => ?_) <;> try (exfalso; first | omega | contradiction)) | refine sv2 ?_ | refine svh (fun hb => ?_) (fun hb => ?_) | refine svb (fun b => ?_) | refine sva ?_ | refine sv3 ?_))
  refine R2.T ?_ (hp := .l rfl (pur_slice_arr_rp (c := ints .i64 [n0, n1, n2, n3, n4]) (nn := 5) rfl rfl (by decide) (by decide)).pur)
  (repeat' (first | (refine iS ?_; refine iMu ?_; refine S.mapU ?_) | refine svz ⟨fun b hq => ?_⟩ | refine sv1 ?_ | refine svs ⟨?_⟩ | refine svu ⟨fun u => ?_⟩ | (refine svg (fun hg => ?_) (fun hg => ?_) <;> try (exfalso; first | omega | contradiction)) | (refine svc (fun hc => ?_) (fun hc => ?_) <;> try (exfalso; first | omega | contradiction)) | refine sv2 ?_ | refine svh (fun hb => ?_) (fun hb => ?_) | refine svb (fun b => ?_) | refine sva ?_ | refine sv3 ?_))
  refine R2.C (c3 _) ?_
  (repeat' (first | (refine iS ?_; refine iMu ?_; refine S.mapU ?_) | refine svz ⟨fun b hq => ?_⟩ | refine sv1 ?_ | refine svs ⟨?_⟩ | refine svu ⟨fun u => ?_⟩ | (refine svg (fun hg => ?_) (fun hg => ?_) <;> try (exfalso; first | omega | contradiction)) | (refine svc (fun hc => ?_) (fun hc => ?_) <;> try (exfalso; first | omega | contradiction)) | refine sv2 ?_ | refine svh (fun hb => ?_) (fun hb => ?_) | refine svb (fun b => ?_) | refine sva ?_ | refine sv3 ?_))
  revert b; intro b14
  refine R2.T ?_ (hp := .l rfl (pur_slice_arr_rp (c := ints .i64 [n0, n1, n2, n3, n4]) (nn := 5) rfl rfl (by decide) (by decide)).pur)
  (repeat' (first | (refine iS ?_; refine iMu ?_; refine S.mapU ?_) | refine svz ⟨fun b hq => ?_⟩ | refine sv1 ?_ | refine svs ⟨?_⟩ | refine svu ⟨fun u => ?_⟩ | (refine svg (fun hg => ?_) (fun hg => ?_) <;> try (exfalso; first | omega | contradiction)) | (refine svc (fun hc => ?_) (fun hc => ?_) <;> try (exfalso; first | omega | contradiction)) | refine sv2 ?_ | refine svh (fun hb => ?_) (fun hb => ?_) | refine svb (fun b => ?_) | refine sva ?_ | refine sv3 ?_))
  refine R2.C (c4 _) ?_
  (repeat' (first | (refine iS ?_; refine iMu ?_; refine S.mapU ?_) | refine svz ⟨fun b hq => ?_⟩ | refine sv1 ?_ | refine svs ⟨?_⟩ | refine svu ⟨fun u => ?_⟩ | (refine svg (fun hg => ?_) (fun hg => ?_) <;> try (exfalso; first | omega | contradiction)) | (refine svc (fun hc => ?_) (fun hc => ?_) <;> try (exfalso; first | omega | contradiction)) | refine sv2 ?_ | refine svh (fun hb => ?_) (fun hb => ?_) | refine svb (fun b => ?_) | refine sva ?_ | refine sv3 ?_))
  refine R2.T ?_ (hp := .l rfl (pur_slice_arr_rp (c := ints .i64 [n0, n1, n2, n3, n4]) (nn := 5) rfl rfl (by decide) (by decide)).pur)
  (repeat' (first | (refine iS ?_; refine iMu ?_; refine S.mapU ?_) | refine svz ⟨fun b hq => ?_⟩ | refine sv1 ?_ | refine svs ⟨?_⟩ | refine svu ⟨fun u => ?_⟩ | (refine svg (fun hg => ?_) (fun hg => ?_) <;> try (exfalso; first | omega | contradiction)) | (refine svc (fun hc => ?_) (fun hc => ?_) <;> try (exfalso; first | omega | contradiction)) | refine sv2 ?_ | refine svh (fun hb => ?_) (fun hb => ?_) | refine svb (fun b => ?_) | refine sva ?_ | refine sv3 ?_))
  refine R2.C (c5 _) ?_
  (repeat' (first | (refine iS ?_; refine iMu ?_; refine S.mapU ?_) | refine svz ⟨fun b hq => ?_⟩ | refine sv1 ?_ | refine svs ⟨?_⟩ | refine svu ⟨fun u => ?_⟩ | (refine svg (fun hg => ?_) (fun hg => ?_) <;> try (exfalso; first | omega | contradiction)) | (refine svc (fun hc => ?_) (fun hc => ?_) <;> try (exfalso; first | omega | contradiction)) | refine sv2 ?_ | refine svh (fun hb => ?_) (fun hb => ?_) | refine svb (fun b => ?_) | refine sva ?_ | refine sv3 ?_))
  rotate_left
  · obtain ⟨k1, k2, k3⟩ : e5 = 0 ∧ P2 = P4 ∧ P2 = P5 := by have q := law.out; rwa [if_neg (by omega)] at q
    rw [decide_eq_true k2] at s2
    rw [decide_eq_true k3] at s3
    refine S.call ?_; refine (awake_c _).mono ?_; rintro r h' ⟨rfl, hh⟩; subst hh
    (repeat' (first | (refine iS ?_; refine iMu ?_; refine S.mapU ?_) | refine svz ⟨fun b hq => ?_⟩ | refine sv1 ?_ | refine svs ⟨?_⟩ | refine svu ⟨fun u => ?_⟩ | (refine svg (fun hg => ?_) (fun hg => ?_) <;> try (exfalso; first | omega | contradiction)) | (refine svc (fun hc => ?_) (fun hc => ?_) <;> try (exfalso; first | omega | contradiction)) | refine sv2 ?_ | refine svh (fun hb => ?_) (fun hb => ?_) | refine svb (fun b => ?_) | refine sva ?_ | refine sv3 ?_))
    refine S.call ?_; refine (s2 _).mono ?_; rintro r h' ⟨rfl, hh⟩; subst hh
    (repeat' (first | (refine iS ?_; refine iMu ?_; refine S.mapU ?_) | refine svz ⟨fun b hq => ?_⟩ | refine sv1 ?_ | refine svs ⟨?_⟩ | refine svu ⟨fun u => ?_⟩ | (refine svg (fun hg => ?_) (fun hg => ?_) <;> try (exfalso; first | omega | contradiction)) | (refine svc (fun hc => ?_) (fun hc => ?_) <;> try (exfalso; first | omega | contradiction)) | refine sv2 ?_ | refine svh (fun hb => ?_) (fun hb => ?_) | refine svb (fun b => ?_) | refine sva ?_ | refine sv3 ?_))
    refine S.call ?_; refine (s3 _).mono ?_; rintro r h' ⟨rfl, hh⟩; subst hh
    (repeat' (first | (refine iS ?_; refine iMu ?_; refine S.mapU ?_) | refine svz ⟨fun b hq => ?_⟩ | refine sv1 ?_ | refine svs ⟨?_⟩ | refine svu ⟨fun u => ?_⟩ | (refine svg (fun hg => ?_) (fun hg => ?_) <;> try (exfalso; first | omega | contradiction)) | (refine svc (fun hc => ?_) (fun hc => ?_) <;> try (exfalso; first | omega | contradiction)) | refine sv2 ?_ | refine svh (fun hb => ?_) (fun hb => ?_) | refine svb (fun b => ?_) | refine sva ?_ | refine sv3 ?_))
    exact fin_r (h' := _) rfl
  all_goals
    obtain ⟨k1, k2⟩ : e5 ≠ 0 ∧ P5 = p := by have q := law.out; rwa [if_pos (by omega)] at q
    rw [decide_eq_true k2] at s1
    refine S.call ?_; refine (awake_c _).mono ?_; rintro r h' ⟨rfl, hh⟩; subst hh
    (repeat' (first | (refine iS ?_; refine iMu ?_; refine S.mapU ?_) | refine svz ⟨fun b hq => ?_⟩ | refine sv1 ?_ | refine svs ⟨?_⟩ | refine svu ⟨fun u => ?_⟩ | (refine svg (fun hg => ?_) (fun hg => ?_) <;> try (exfalso; first | omega | contradiction)) | (refine svc (fun hc => ?_) (fun hc => ?_) <;> try (exfalso; first | omega | contradiction)) | refine sv2 ?_ | refine svh (fun hb => ?_) (fun hb => ?_) | refine svb (fun b => ?_) | refine sva ?_ | refine sv3 ?_))
    refine S.call ?_; refine (s1 _).mono ?_; rintro r h' ⟨rfl, hh⟩; subst hh
    (repeat' (first | (refine iS ?_; refine iMu ?_; refine S.mapU ?_) | refine svz ⟨fun b hq => ?_⟩ | refine sv1 ?_ | refine svs ⟨?_⟩ | refine svu ⟨fun u => ?_⟩ | (refine svg (fun hg => ?_) (fun hg => ?_) <;> try (exfalso; first | omega | contradiction)) | (refine svc (fun hc => ?_) (fun hc => ?_) <;> try (exfalso; first | omega | contradiction)) | refine sv2 ?_ | refine svh (fun hb => ?_) (fun hb => ?_) | refine svb (fun b => ?_) | refine sva ?_ | refine sv3 ?_))
    exact fin_r (h' := _) rfl
theorem a5_fit {N : Nat} {x : AV} (h : FitE N (.fld 1 (.int .i64) (.fld 1 (.int .i64) (.fld 1 (.int .i64) (.fld 1 (.int .i64) (.fld 1 (.int .i64) (.nil)))))) x) : ∃ n0 n1 n2 n3 n4, x = .agg (ints .i64 [n0, n1, n2, n3, n4]) := by
  obtain ⟨_, rfl, _, _, rfl, _, ⟨a, rfl, ha⟩, _, _, rfl, _, ⟨b, rfl, hb⟩, _, _, rfl, _, ⟨c, rfl, hc⟩, _, _, rfl, _, ⟨d, rfl, hd⟩, _, _, rfl, _, ⟨e, rfl, he⟩, rfl⟩ := h
  exact ⟨a, b, c, d, e, rfl⟩
theorem twice_row : ∀ l, FitAll maxLen [.fld 1 (.int .i64) (.fld 1 (.int .u8) (.fld 1 (.int .u8) (.fld 1 (.int .u8) (.fld 1 (.int .u32) (.fld 1 (.int .i64) (.fld 1 (.int .i64) (.fld 1 (.bool) (.fld 1 (.sl 4 (.fld 1 (.int .i64) (.fld 1 (.int .i64) (.fld 1 (.int .i64) (.fld 1 (.int .i64) (.nil)))))) (.nil))))))))), .int .u8, .int .u8, .fld 1 (.int .i64) (.fld 1 (.int .i64) (.fld 1 (.int .i64) (.fld 1 (.int .i64) (.fld 1 (.int .i64) (.nil)))))] l → ACalls Try.prog 8 l [] (fun r h' => r = .val (.bool true)) := by
  rintro l ⟨x, _, rfl, hx, y, _, rfl, hy, z, _, rfl, hz, n, _, rfl, hn, rfl⟩
  obtain ⟨p, rfl, hp⟩ := pn_fit hx
  obtain ⟨a, rfl, ha⟩ := fit_int hy
  obtain ⟨e, rfl, he⟩ := fit_int hz
  obtain ⟨n0, n1, n2, n3, n4, rfl⟩ := a5_fit hn
  exact twice_c p a e n0 n1 n2 n3 n4 hp (wf_u8 ha) (wf_u8 he)
end Go.Proofs.Ytmfbfbhkjclhkaa
