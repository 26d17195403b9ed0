/- ShapeFar. No condition. -/
import Derived.Test.YtdknjjgmmmmfjaaE10
namespace Go.Proofs.Ytdknjjgmmmmfjaa
open Go Go.VM
attribute [local irreducible] PurV Pur Step RL W D ACalls Then InBlock Fini
set_option linter.unusedVariables false
set_option linter.unusedSimpArgs false
set_option maxHeartbeats 20000000
def oneR (x y : Int) : RC := ⟨x, y, 1, 1⟩
def sqR (x y n : Int) : RC := ⟨x - n, y - n, 2 * n + 1, 2 * n + 1⟩
theorem one_ok {x y : Int} (hx : I64 x) (hy : I64 y) : (oneR x y).ok := by
  constructor <;> (unfold oneR I64 at *; dsimp only; omega)
theorem thin_nil (n : Int) : thinF n [] = [] := can_nil
theorem turn_nil : turnF [] = [] := can_nil
theorem low_nil (n : Int) : lowF n [] = [] := by unfold lowF; rw [turn_nil, thin_nil, turn_nil]
theorem grow_nil (n : Int) : growF n [] = [] := can_nil
theorem thin_one {x y n : Int} (hn : 0 < n) : thinF n [oneR x y] = [] := of_not fun h => by
  unfold thR oneR RC.cnt fitP at h; dsimp only at h; omega
theorem turn_one {r : RC} (h : r.cnt) : turnF [r] = [tuR r] := of_cnt (r := tuR r) ⟨h.2, h.1⟩
theorem thin_cnt {r : RC} {n : Int} (h : (thR n r).cnt) : thinF n [r] = [thR n r] := of_cnt h
theorem low_cnt {r : RC} {n : Int} (h : r.cnt) (h2 : (thR n (tuR r)).cnt) : lowF n [r] = [tuR (thR n (tuR r))] := by
  unfold lowF; rw [turn_one h, thin_cnt h2, turn_one h2]
/-- A square grown less is its middle. -/
theorem back_sq {x y n : Int} (hn : 0 ≤ n) (h : (sqR x y n).cnt) : lowF n (thinF n [sqR x y n]) = [oneR x y] := by
  have h1 : (thR n (sqR x y n)).cnt := by unfold thR sqR RC.cnt fitP at *; dsimp only at *; omega
  have h2 : (thR n (tuR (thR n (sqR x y n)))).cnt := by unfold thR tuR sqR RC.cnt fitP at *; dsimp only at *; omega
  rw [thin_cnt h1, low_cnt h1 h2]
  have e : tuR (thR n (tuR (thR n (sqR x y n)))) = oneR x y := by
    unfold tuR thR sqR oneR
    dsimp only
    rw [RC.mk.injEq]
    omega
  rw [e]
theorem wi_one (x y n : Int) : wiR n (oneR x y) = sqR x y n := by
  unfold wiR oneR sqR
  dsimp only
  rw [RC.mk.injEq]
  omega
theorem box_one {r : RC} (h : r.cnt) : boxF [r] = r := by
  have hc : Can [r] := of_cnt h
  obtain ⟨⟨a1, a2, a3⟩, a4, a5, a6⟩ := id h
  have b1 := boxF_has hc.cnt hc.fol (x := r.x) (y := r.y) (hasR_iff.2 ⟨r, .head _, by unfold RC.has; omega⟩)
  have b2 := boxF_has hc.cnt hc.fol (x := r.x + r.w - 1) (y := r.y + r.h - 1) (hasR_iff.2 ⟨r, .head _, by unfold RC.has; omega⟩)
  obtain ⟨⟨y1, t1⟩, ⟨y2, t2⟩, ⟨x3, t3⟩, x4, t4⟩ := boxF_tight hc (by simp)
  have key : ∀ {u v : Int}, hasR [r] u v = true → r.has u v := fun q => by
    obtain ⟨p, hp, q2⟩ := hasR_iff.1 q
    have : p = r := by simpa using hp
    rw [← this]; exact q2
  have k1 := key t1; have k2 := key t2; have k3 := key t3; have k4 := key t4
  unfold RC.has at k1 k2 k3 k4
  generalize boxF [r] = bx at *
  obtain ⟨bx1, bx2, bx3, bx4⟩ := bx
  obtain ⟨r1, r2, r3, r4⟩ := r
  simp only [RC.mk.injEq] at *
  omega
set_option maxRecDepth 100000 in
theorem grow_nil_c (n : Int) (h : Heap) (hn : -128 ≤ n ∧ n ≤ 128) : ACalls Try.prog 12 [regE [], .val (.int .i64 n)] h (fun r h' => r = .tup [regE [], .val (.int .i64 0)] ∧ h' = h) := by
  rcases (by omega : n ≤ 0 ∨ 0 < n) with g | g
  · have := grow_less [] n h ⟨hn.1, g⟩ can_nil (by simp) (by rw [thin_nil]; simp) (by rw [thin_nil, turn_nil]; simp) (by rw [thin_nil, turn_nil, thin_nil]; simp)
    rw [thin_nil, low_nil] at this
    exact this
  · have := grow_more [] n h ⟨g, hn.2⟩ can_nil (by simp) (by unfold wiR boxF RC.cnt fitP; dsimp only; omega)
    rw [grow_nil] at this
    exact this
theorem grow_in (x y n : Int) (h : Heap) (hc : (oneR x y).cnt) (hn : -128 ≤ n ∧ n < 0) : ACalls Try.prog 12 [regE [oneR x y], .val (.int .i64 n)] h (fun r h' => r = .tup [regE [], .val (.int .i64 0)] ∧ h' = h) := by
  have e := thin_one (x := x) (y := y) (n := -n) (by omega)
  have := grow_less [oneR x y] n h ⟨hn.1, by omega⟩ (of_cnt hc) (by simp) (by rw [e]; simp) (by rw [e, turn_nil]; simp) (by rw [e, turn_nil, thin_nil]; simp)
  rw [e, low_nil] at this
  exact this
theorem grow_sq_big (x y n : Int) (h : Heap) (hc : (oneR x y).cnt) (hn : 0 ≤ n ∧ n ≤ 128) (hq : ¬ (sqR x y n).cnt) : ACalls Try.prog 12 [regE [oneR x y], .val (.int .i64 n)] h (fun r h' => r = .tup [regE [], .val (.int .i64 17)] ∧ h' = h) :=
  grow_big [oneR x y] n h ⟨by
    rcases (by omega : n = 0 ∨ 0 < n) with rfl | g
    · exact absurd (by unfold sqR oneR RC.cnt fitP at *; dsimp only at *; omega) hq
    · exact g, hn.2⟩ (of_cnt hc) (by simp) (by rw [box_one hc, wi_one]; exact hq)
theorem back_c (x y n : Int) (h : Heap) (hn : 0 ≤ n ∧ n ≤ 128) (hq : (sqR x y n).cnt) : ACalls Try.prog 12 [regE [sqR x y n], .val (.int .i64 (-n))] h (fun r h' => r = .tup [regE [oneR x y], .val (.int .i64 0)] ∧ h' = h) := by
  have h1 : (thR n (sqR x y n)).cnt := by unfold thR sqR RC.cnt fitP at *; dsimp only at *; omega
  have h2 : (thR n (tuR (thR n (sqR x y n)))).cnt := by unfold thR tuR sqR RC.cnt fitP at *; dsimp only at *; omega
  have e0 : - -n = n := by omega
  have := grow_less [sqR x y n] (-n) h (by omega) (of_cnt hq) (by simp) (by rw [e0, thin_cnt h1]; simp) (by rw [e0, thin_cnt h1, turn_one h1]; simp) (by rw [e0, thin_cnt h1, turn_one h1, thin_cnt h2]; simp)
  rw [e0, back_sq hn.1 hq] at this
  exact this
theorem grow_sq (x y n : Int) (h : Heap) (hc : (oneR x y).cnt) (hn : 0 ≤ n ∧ n ≤ 128) (hq : (sqR x y n).cnt) : ACalls Try.prog 12 [regE [oneR x y], .val (.int .i64 n)] h (fun r h' => r = .tup [regE [sqR x y n], .val (.int .i64 0)] ∧ h' = h) := by
  rcases (by omega : n = 0 ∨ 0 < n) with rfl | g
  · have e : sqR x y 0 = oneR x y := by unfold sqR oneR; simp
    have := back_c x y 0 h hn hq
    rw [e] at this ⊢
    exact this
  · have := grow_more [oneR x y] n h ⟨g, hn.2⟩ (of_cnt hc) (by simp) (by rw [box_one hc, wi_one]; exact hq)
    rw [show growF n [oneR x y] = [sqR x y n] from by unfold growF; rw [List.map_cons, List.map_nil, wi_one]; exact of_cnt hq] at this
    exact this
set_option maxRecDepth 100000 in
theorem far_c (x y n : Int) (hx : I64 x) (hy : I64 y) (hn : I64 n) : ACalls Try.prog 6 [.val (.int .i64 x), .val (.int .i64 y), .val (.int .i64 n)] [] (fun r h' => r = .val (.bool true)) := by
  have aw := awake_c
  have em : ∀ h, ACalls Try.prog 19 [regE []] h (fun r h' => r = .val (.bool true) ∧ h' = h) := fun h => empty_c [] h
  have o1 : ∀ h, ACalls Try.prog 13 [.ro 4 [.agg [.val (.int .i64 x), .val (.int .i64 y), .val (.int .i64 1), .val (.int .i64 1)]]] h (fun r h' => r = regE (ofF [oneR x y]) ∧ h' = h) := fun h => of_c [oneR x y] h (by simp) (fun r hr => by
    have : r = oneR x y := by simpa using hr
    subst this; exact one_ok hx hy)
  have ct : ∀ h, ACalls Try.prog 20 [.agg [.val (.int .i64 x), .val (.int .i64 y), .val (.int .i64 1), .val (.int .i64 1)]] h (fun v h' => v = .val (.bool (decide (oneR x y).cnt)) ∧ h' = h) := fun h => rcounts_c (oneR x y) h (one_ok hx hy)
  rcases (by omega : (n < -128 ∨ 128 < n) ∨ (-128 ≤ n ∧ n ≤ 128)) with hb | hb
  · have o2 := fun h => grow_bad (ofF [oneR x y]) n h hb
    clear ct
    generalize ofF [oneR x y] = R at *
    unfold regE at *
    rcases hb with hb | hb
    · refine ACalls.intro Try.func6 rfl Try.ntmps6 Try.results6 (Nat.le_of_ble_eq_true rfl) ?_
      (repeat' (first | (refine iR2 ?_; refine r2b ?_; refine R2.one ?_) | (refine iS ?_; refine iN ?_; refine S.build1r ?_) | (refine iS ?_; refine iMu ?_; refine S.mapU ?_) | refine svz ⟨fun b hq => ?_⟩ | refine sv1 ?_ | refine svs ⟨?_⟩ | refine svu ⟨fun u => ?_⟩ | (refine svg (fun hg => ?_) (fun hg => ?_) <;> try (exfalso; first | omega | contradiction)) | (refine svc (fun hc => ?_) (fun hc => ?_) <;> try (exfalso; first | omega | contradiction)) | refine sv2 ?_ | refine svh (fun hb => ?_) (fun hb => ?_) | refine svb (fun b => ?_) | refine sva ?_ | refine sv3 ?_))
      refine S.call ?_; refine (o1 _).mono ?_; rintro r h' ⟨rfl, hh⟩; subst hh
      (repeat' (first | (refine iR2 ?_; refine r2b ?_; refine R2.one ?_) | (refine iS ?_; refine iN ?_; refine S.build1r ?_) | (refine iS ?_; refine iMu ?_; refine S.mapU ?_) | refine svz ⟨fun b hq => ?_⟩ | refine sv1 ?_ | refine svs ⟨?_⟩ | refine svu ⟨fun u => ?_⟩ | (refine svg (fun hg => ?_) (fun hg => ?_) <;> try (exfalso; first | omega | contradiction)) | (refine svc (fun hc => ?_) (fun hc => ?_) <;> try (exfalso; first | omega | contradiction)) | refine sv2 ?_ | refine svh (fun hb => ?_) (fun hb => ?_) | refine svb (fun b => ?_) | refine sva ?_ | refine sv3 ?_))
      refine S.call ?_; refine (o2 _).mono ?_; rintro r h' ⟨rfl, hh⟩; subst hh
      (repeat' (first | (refine iR2 ?_; refine r2b ?_; refine R2.one ?_) | (refine iS ?_; refine iN ?_; refine S.build1r ?_) | (refine iS ?_; refine iMu ?_; refine S.mapU ?_) | refine svz ⟨fun b hq => ?_⟩ | refine sv1 ?_ | refine svs ⟨?_⟩ | refine svu ⟨fun u => ?_⟩ | (refine svg (fun hg => ?_) (fun hg => ?_) <;> try (exfalso; first | omega | contradiction)) | (refine svc (fun hc => ?_) (fun hc => ?_) <;> try (exfalso; first | omega | contradiction)) | refine sv2 ?_ | refine svh (fun hb => ?_) (fun hb => ?_) | refine svb (fun b => ?_) | refine sva ?_ | refine sv3 ?_))
      refine S.call ?_; refine (em _).mono ?_; rintro r h' ⟨rfl, hh⟩; subst hh
      (repeat' (first | (refine iR2 ?_; refine r2b ?_; refine R2.one ?_) | (refine iS ?_; refine iN ?_; refine S.build1r ?_) | (refine iS ?_; refine iMu ?_; refine S.mapU ?_) | refine svz ⟨fun b hq => ?_⟩ | refine sv1 ?_ | refine svs ⟨?_⟩ | refine svu ⟨fun u => ?_⟩ | (refine svg (fun hg => ?_) (fun hg => ?_) <;> try (exfalso; first | omega | contradiction)) | (refine svc (fun hc => ?_) (fun hc => ?_) <;> try (exfalso; first | omega | contradiction)) | refine sv2 ?_ | refine svh (fun hb => ?_) (fun hb => ?_) | refine svb (fun b => ?_) | refine sva ?_ | refine sv3 ?_))
      refine S.call ?_; refine (aw _).mono ?_; rintro r h' ⟨rfl, hh⟩; subst hh
      (repeat' (first | (refine iR2 ?_; refine r2b ?_; refine R2.one ?_) | (refine iS ?_; refine iN ?_; refine S.build1r ?_) | (refine iS ?_; refine iMu ?_; refine S.mapU ?_) | refine svz ⟨fun b hq => ?_⟩ | refine sv1 ?_ | refine svs ⟨?_⟩ | refine svu ⟨fun u => ?_⟩ | (refine svg (fun hg => ?_) (fun hg => ?_) <;> try (exfalso; first | omega | contradiction)) | (refine svc (fun hc => ?_) (fun hc => ?_) <;> try (exfalso; first | omega | contradiction)) | refine sv2 ?_ | refine svh (fun hb => ?_) (fun hb => ?_) | refine svb (fun b => ?_) | refine sva ?_ | refine sv3 ?_))
      exact fin_r (h' := _) rfl
    · have hb2 : ¬ n < -128 := by omega
      refine ACalls.intro Try.func6 rfl Try.ntmps6 Try.results6 (Nat.le_of_ble_eq_true rfl) ?_
      (repeat' (first | (refine iR2 ?_; refine r2b ?_; refine R2.one ?_) | (refine iS ?_; refine iN ?_; refine S.build1r ?_) | (refine iS ?_; refine iMu ?_; refine S.mapU ?_) | refine svz ⟨fun b hq => ?_⟩ | refine sv1 ?_ | refine svs ⟨?_⟩ | refine svu ⟨fun u => ?_⟩ | (refine svg (fun hg => ?_) (fun hg => ?_) <;> try (exfalso; first | omega | contradiction)) | (refine svc (fun hc => ?_) (fun hc => ?_) <;> try (exfalso; first | omega | contradiction)) | refine sv2 ?_ | refine svh (fun hb => ?_) (fun hb => ?_) | refine svb (fun b => ?_) | refine sva ?_ | refine sv3 ?_))
      refine S.call ?_; refine (o1 _).mono ?_; rintro r h' ⟨rfl, hh⟩; subst hh
      (repeat' (first | (refine iR2 ?_; refine r2b ?_; refine R2.one ?_) | (refine iS ?_; refine iN ?_; refine S.build1r ?_) | (refine iS ?_; refine iMu ?_; refine S.mapU ?_) | refine svz ⟨fun b hq => ?_⟩ | refine sv1 ?_ | refine svs ⟨?_⟩ | refine svu ⟨fun u => ?_⟩ | (refine svg (fun hg => ?_) (fun hg => ?_) <;> try (exfalso; first | omega | contradiction)) | (refine svc (fun hc => ?_) (fun hc => ?_) <;> try (exfalso; first | omega | contradiction)) | refine sv2 ?_ | refine svh (fun hb => ?_) (fun hb => ?_) | refine svb (fun b => ?_) | refine sva ?_ | refine sv3 ?_))
      refine S.call ?_; refine (o2 _).mono ?_; rintro r h' ⟨rfl, hh⟩; subst hh
      (repeat' (first | (refine iR2 ?_; refine r2b ?_; refine R2.one ?_) | (refine iS ?_; refine iN ?_; refine S.build1r ?_) | (refine iS ?_; refine iMu ?_; refine S.mapU ?_) | refine svz ⟨fun b hq => ?_⟩ | refine sv1 ?_ | refine svs ⟨?_⟩ | refine svu ⟨fun u => ?_⟩ | (refine svg (fun hg => ?_) (fun hg => ?_) <;> try (exfalso; first | omega | contradiction)) | (refine svc (fun hc => ?_) (fun hc => ?_) <;> try (exfalso; first | omega | contradiction)) | refine sv2 ?_ | refine svh (fun hb => ?_) (fun hb => ?_) | refine svb (fun b => ?_) | refine sva ?_ | refine sv3 ?_))
      refine S.call ?_; refine (em _).mono ?_; rintro r h' ⟨rfl, hh⟩; subst hh
      (repeat' (first | (refine iR2 ?_; refine r2b ?_; refine R2.one ?_) | (refine iS ?_; refine iN ?_; refine S.build1r ?_) | (refine iS ?_; refine iMu ?_; refine S.mapU ?_) | refine svz ⟨fun b hq => ?_⟩ | refine sv1 ?_ | refine svs ⟨?_⟩ | refine svu ⟨fun u => ?_⟩ | (refine svg (fun hg => ?_) (fun hg => ?_) <;> try (exfalso; first | omega | contradiction)) | (refine svc (fun hc => ?_) (fun hc => ?_) <;> try (exfalso; first | omega | contradiction)) | refine sv2 ?_ | refine svh (fun hb => ?_) (fun hb => ?_) | refine svb (fun b => ?_) | refine sva ?_ | refine sv3 ?_))
      refine S.call ?_; refine (aw _).mono ?_; rintro r h' ⟨rfl, hh⟩; subst hh
      (repeat' (first | (refine iR2 ?_; refine r2b ?_; refine R2.one ?_) | (refine iS ?_; refine iN ?_; refine S.build1r ?_) | (refine iS ?_; refine iMu ?_; refine S.mapU ?_) | refine svz ⟨fun b hq => ?_⟩ | refine sv1 ?_ | refine svs ⟨?_⟩ | refine svu ⟨fun u => ?_⟩ | (refine svg (fun hg => ?_) (fun hg => ?_) <;> try (exfalso; first | omega | contradiction)) | (refine svc (fun hc => ?_) (fun hc => ?_) <;> try (exfalso; first | omega | contradiction)) | refine sv2 ?_ | refine svh (fun hb => ?_) (fun hb => ?_) | refine svb (fun b => ?_) | refine sva ?_ | refine sv3 ?_))
      exact fin_r (h' := _) rfl
  · have hb1 : ¬ n < -128 := by omega
    have hb2 : ¬ 128 < n := by omega
    by_cases hc : (oneR x y).cnt
    · rw [show ofF [oneR x y] = [oneR x y] from of_cnt hc] at o1
      rw [decide_eq_true hc] at ct
      rcases (by omega : n < 0 ∨ 0 ≤ n) with hn0 | hn0
      · have o2 := fun h => grow_in x y n h hc ⟨hb.1, hn0⟩
        generalize [oneR x y] = R at *
        unfold regE at *
        refine ACalls.intro Try.func6 rfl Try.ntmps6 Try.results6 (Nat.le_of_ble_eq_true rfl) ?_
        (repeat' (first | (refine iR2 ?_; refine r2b ?_; refine R2.one ?_) | (refine iS ?_; refine iN ?_; refine S.build1r ?_) | (refine iS ?_; refine iMu ?_; refine S.mapU ?_) | refine svz ⟨fun b hq => ?_⟩ | refine sv1 ?_ | refine svs ⟨?_⟩ | refine svu ⟨fun u => ?_⟩ | (refine svg (fun hg => ?_) (fun hg => ?_) <;> try (exfalso; first | omega | contradiction)) | (refine svc (fun hc => ?_) (fun hc => ?_) <;> try (exfalso; first | omega | contradiction)) | refine sv2 ?_ | refine svh (fun hb => ?_) (fun hb => ?_) | refine svb (fun b => ?_) | refine sva ?_ | refine sv3 ?_))
        refine S.call ?_; refine (o1 _).mono ?_; rintro r h' ⟨rfl, hh⟩; subst hh
        (repeat' (first | (refine iR2 ?_; refine r2b ?_; refine R2.one ?_) | (refine iS ?_; refine iN ?_; refine S.build1r ?_) | (refine iS ?_; refine iMu ?_; refine S.mapU ?_) | refine svz ⟨fun b hq => ?_⟩ | refine sv1 ?_ | refine svs ⟨?_⟩ | refine svu ⟨fun u => ?_⟩ | (refine svg (fun hg => ?_) (fun hg => ?_) <;> try (exfalso; first | omega | contradiction)) | (refine svc (fun hc => ?_) (fun hc => ?_) <;> try (exfalso; first | omega | contradiction)) | refine sv2 ?_ | refine svh (fun hb => ?_) (fun hb => ?_) | refine svb (fun b => ?_) | refine sva ?_ | refine sv3 ?_))
        refine S.call ?_; refine (o2 _).mono ?_; rintro r h' ⟨rfl, hh⟩; subst hh
        (repeat' (first | (refine iR2 ?_; refine r2b ?_; refine R2.one ?_) | (refine iS ?_; refine iN ?_; refine S.build1r ?_) | (refine iS ?_; refine iMu ?_; refine S.mapU ?_) | refine svz ⟨fun b hq => ?_⟩ | refine sv1 ?_ | refine svs ⟨?_⟩ | refine svu ⟨fun u => ?_⟩ | (refine svg (fun hg => ?_) (fun hg => ?_) <;> try (exfalso; first | omega | contradiction)) | (refine svc (fun hc => ?_) (fun hc => ?_) <;> try (exfalso; first | omega | contradiction)) | refine sv2 ?_ | refine svh (fun hb => ?_) (fun hb => ?_) | refine svb (fun b => ?_) | refine sva ?_ | refine sv3 ?_))
        refine S.call ?_; refine (ct _).mono ?_; rintro r h' ⟨rfl, hh⟩; subst hh
        (repeat' (first | (refine iR2 ?_; refine r2b ?_; refine R2.one ?_) | (refine iS ?_; refine iN ?_; refine S.build1r ?_) | (refine iS ?_; refine iMu ?_; refine S.mapU ?_) | refine svz ⟨fun b hq => ?_⟩ | refine sv1 ?_ | refine svs ⟨?_⟩ | refine svu ⟨fun u => ?_⟩ | (refine svg (fun hg => ?_) (fun hg => ?_) <;> try (exfalso; first | omega | contradiction)) | (refine svc (fun hc => ?_) (fun hc => ?_) <;> try (exfalso; first | omega | contradiction)) | refine sv2 ?_ | refine svh (fun hb => ?_) (fun hb => ?_) | refine svb (fun b => ?_) | refine sva ?_ | refine sv3 ?_))
        refine S.call ?_; refine (em _).mono ?_; rintro r h' ⟨rfl, hh⟩; subst hh
        (repeat' (first | (refine iR2 ?_; refine r2b ?_; refine R2.one ?_) | (refine iS ?_; refine iN ?_; refine S.build1r ?_) | (refine iS ?_; refine iMu ?_; refine S.mapU ?_) | refine svz ⟨fun b hq => ?_⟩ | refine sv1 ?_ | refine svs ⟨?_⟩ | refine svu ⟨fun u => ?_⟩ | (refine svg (fun hg => ?_) (fun hg => ?_) <;> try (exfalso; first | omega | contradiction)) | (refine svc (fun hc => ?_) (fun hc => ?_) <;> try (exfalso; first | omega | contradiction)) | refine sv2 ?_ | refine svh (fun hb => ?_) (fun hb => ?_) | refine svb (fun b => ?_) | refine sva ?_ | refine sv3 ?_))
        refine S.call ?_; refine (aw _).mono ?_; rintro r h' ⟨rfl, hh⟩; subst hh
        (repeat' (first | (refine iR2 ?_; refine r2b ?_; refine R2.one ?_) | (refine iS ?_; refine iN ?_; refine S.build1r ?_) | (refine iS ?_; refine iMu ?_; refine S.mapU ?_) | refine svz ⟨fun b hq => ?_⟩ | refine sv1 ?_ | refine svs ⟨?_⟩ | refine svu ⟨fun u => ?_⟩ | (refine svg (fun hg => ?_) (fun hg => ?_) <;> try (exfalso; first | omega | contradiction)) | (refine svc (fun hc => ?_) (fun hc => ?_) <;> try (exfalso; first | omega | contradiction)) | refine sv2 ?_ | refine svh (fun hb => ?_) (fun hb => ?_) | refine svb (fun b => ?_) | refine sva ?_ | refine sv3 ?_))
        exact fin_r (h' := _) rfl
      · have xb : (-1048576 ≤ x ∧ x ≤ 1048576) ∧ (-1048576 ≤ y ∧ y ≤ 1048576) := by unfold oneR RC.cnt fitP at hc; dsimp only at hc; omega
        have cs : ∀ h, ACalls Try.prog 20 [.agg [.val (.int .i64 (x - n)), .val (.int .i64 (y - n)), .val (.int .i64 (2 * n + 1)), .val (.int .i64 (2 * n + 1))]] h (fun v h' => v = .val (.bool (decide (sqR x y n).cnt)) ∧ h' = h) := fun h => rcounts_c (sqR x y n) h (by constructor <;> (unfold sqR I64; dsimp only; omega))
        by_cases hq : (sqR x y n).cnt
        · have o2 := fun h => grow_sq x y n h hc ⟨hn0, hb.2⟩ hq
          have bk := fun h => back_c x y n h ⟨hn0, hb.2⟩ hq
          have os : ∀ h, ACalls Try.prog 13 [.ro 4 [.agg [.val (.int .i64 (x - n)), .val (.int .i64 (y - n)), .val (.int .i64 (2 * n + 1)), .val (.int .i64 (2 * n + 1))]]] h (fun r h' => r = regE (ofF [sqR x y n]) ∧ h' = h) := fun h => of_c [sqR x y n] h (by simp) (fun r hr => by
            have : r = sqR x y n := by simpa using hr
            subst this; constructor <;> (unfold sqR I64; dsimp only; omega))
          rw [show ofF [sqR x y n] = [sqR x y n] from of_cnt hq] at os
          rw [decide_eq_true hq] at cs
          rw [show -n = 0 - n by omega] at bk
          have same_t : ∀ (A : List RC) h, ACalls Try.prog 21 [regE A, regE A] h (fun r h' => r = .val (.bool true) ∧ h' = h) := fun A h => by
            have := same_c A A h
            rw [decide_eq_true rfl] at this
            exact this
          have s1 := fun h => same_t [oneR x y] h
          have s2 := fun h => same_t [sqR x y n] h
          clear same_t
          generalize [oneR x y] = R at *
          generalize [sqR x y n] = T at *
          unfold regE at *
          refine ACalls.intro Try.func6 rfl Try.ntmps6 Try.results6 (Nat.le_of_ble_eq_true rfl) ?_
          (repeat' (first | (refine iR2 ?_; refine r2b ?_; refine R2.one ?_) | (refine iS ?_; refine iN ?_; refine S.build1r ?_) | (refine iS ?_; refine iMu ?_; refine S.mapU ?_) | refine svz ⟨fun b hq => ?_⟩ | refine sv1 ?_ | refine svs ⟨?_⟩ | refine svu ⟨fun u => ?_⟩ | (refine svg (fun hg => ?_) (fun hg => ?_) <;> try (exfalso; first | omega | contradiction)) | (refine svc (fun hc => ?_) (fun hc => ?_) <;> try (exfalso; first | omega | contradiction)) | refine sv2 ?_ | refine svh (fun hb => ?_) (fun hb => ?_) | refine svb (fun b => ?_) | refine sva ?_ | refine sv3 ?_))
          refine S.call ?_; refine (o1 _).mono ?_; rintro r h' ⟨rfl, hh⟩; subst hh
          (repeat' (first | (refine iR2 ?_; refine r2b ?_; refine R2.one ?_) | (refine iS ?_; refine iN ?_; refine S.build1r ?_) | (refine iS ?_; refine iMu ?_; refine S.mapU ?_) | refine svz ⟨fun b hq => ?_⟩ | refine sv1 ?_ | refine svs ⟨?_⟩ | refine svu ⟨fun u => ?_⟩ | (refine svg (fun hg => ?_) (fun hg => ?_) <;> try (exfalso; first | omega | contradiction)) | (refine svc (fun hc => ?_) (fun hc => ?_) <;> try (exfalso; first | omega | contradiction)) | refine sv2 ?_ | refine svh (fun hb => ?_) (fun hb => ?_) | refine svb (fun b => ?_) | refine sva ?_ | refine sv3 ?_))
          refine S.call ?_; refine (o2 _).mono ?_; rintro r h' ⟨rfl, hh⟩; subst hh
          (repeat' (first | (refine iR2 ?_; refine r2b ?_; refine R2.one ?_) | (refine iS ?_; refine iN ?_; refine S.build1r ?_) | (refine iS ?_; refine iMu ?_; refine S.mapU ?_) | refine svz ⟨fun b hq => ?_⟩ | refine sv1 ?_ | refine svs ⟨?_⟩ | refine svu ⟨fun u => ?_⟩ | (refine svg (fun hg => ?_) (fun hg => ?_) <;> try (exfalso; first | omega | contradiction)) | (refine svc (fun hc => ?_) (fun hc => ?_) <;> try (exfalso; first | omega | contradiction)) | refine sv2 ?_ | refine svh (fun hb => ?_) (fun hb => ?_) | refine svb (fun b => ?_) | refine sva ?_ | refine sv3 ?_))
          refine S.call ?_; refine (ct _).mono ?_; rintro r h' ⟨rfl, hh⟩; subst hh
          (repeat' (first | (refine iR2 ?_; refine r2b ?_; refine R2.one ?_) | (refine iS ?_; refine iN ?_; refine S.build1r ?_) | (refine iS ?_; refine iMu ?_; refine S.mapU ?_) | refine svz ⟨fun b hq => ?_⟩ | refine sv1 ?_ | refine svs ⟨?_⟩ | refine svu ⟨fun u => ?_⟩ | (refine svg (fun hg => ?_) (fun hg => ?_) <;> try (exfalso; first | omega | contradiction)) | (refine svc (fun hc => ?_) (fun hc => ?_) <;> try (exfalso; first | omega | contradiction)) | refine sv2 ?_ | refine svh (fun hb => ?_) (fun hb => ?_) | refine svb (fun b => ?_) | refine sva ?_ | refine sv3 ?_))
          refine S.call ?_; refine (cs _).mono ?_; rintro r h' ⟨rfl, hh⟩; subst hh
          (repeat' (first | (refine iR2 ?_; refine r2b ?_; refine R2.one ?_) | (refine iS ?_; refine iN ?_; refine S.build1r ?_) | (refine iS ?_; refine iMu ?_; refine S.mapU ?_) | refine svz ⟨fun b hq => ?_⟩ | refine sv1 ?_ | refine svs ⟨?_⟩ | refine svu ⟨fun u => ?_⟩ | (refine svg (fun hg => ?_) (fun hg => ?_) <;> try (exfalso; first | omega | contradiction)) | (refine svc (fun hc => ?_) (fun hc => ?_) <;> try (exfalso; first | omega | contradiction)) | refine sv2 ?_ | refine svh (fun hb => ?_) (fun hb => ?_) | refine svb (fun b => ?_) | refine sva ?_ | refine sv3 ?_))
          refine S.call ?_; refine (bk _).mono ?_; rintro r h' ⟨rfl, hh⟩; subst hh
          (repeat' ((fail_if_success (refine iR2 ?_; refine r2b ?_)); (first | (refine iS ?_; refine iMu ?_; refine S.mapU ?_) | refine svz ⟨fun b hq => ?_⟩ | refine sv1 ?_ | refine svs ⟨?_⟩ | refine svu ⟨fun u => ?_⟩ | (refine svg (fun hg => ?_) (fun hg => ?_) <;> try (exfalso; first | omega | contradiction)) | (refine svc (fun hc => ?_) (fun hc => ?_) <;> try (exfalso; first | omega | contradiction)) | refine sv2 ?_ | refine svh (fun hb => ?_) (fun hb => ?_) | refine svb (fun b => ?_) | refine sva ?_ | refine sv3 ?_)))
          refine R2.one (kk := 4) ?_
          (repeat' ((fail_if_success (refine iR2 ?_; refine r2b ?_)); (first | (refine iS ?_; refine iMu ?_; refine S.mapU ?_) | refine svz ⟨fun b hq => ?_⟩ | refine sv1 ?_ | refine svs ⟨?_⟩ | refine svu ⟨fun u => ?_⟩ | (refine svg (fun hg => ?_) (fun hg => ?_) <;> try (exfalso; first | omega | contradiction)) | (refine svc (fun hc => ?_) (fun hc => ?_) <;> try (exfalso; first | omega | contradiction)) | refine sv2 ?_ | refine svh (fun hb => ?_) (fun hb => ?_) | refine svb (fun b => ?_) | refine sva ?_ | refine sv3 ?_)))
          refine R2.C (os _) ?_
          (repeat' ((fail_if_success (refine iR2 ?_; refine r2b ?_)); (first | (refine iS ?_; refine iMu ?_; refine S.mapU ?_) | refine svz ⟨fun b hq => ?_⟩ | refine sv1 ?_ | refine svs ⟨?_⟩ | refine svu ⟨fun u => ?_⟩ | (refine svg (fun hg => ?_) (fun hg => ?_) <;> try (exfalso; first | omega | contradiction)) | (refine svc (fun hc => ?_) (fun hc => ?_) <;> try (exfalso; first | omega | contradiction)) | refine sv2 ?_ | refine svh (fun hb => ?_) (fun hb => ?_) | refine svb (fun b => ?_) | refine sva ?_ | refine sv3 ?_)))
          refine R2.C (s2 _) ?_
          (repeat' ((fail_if_success (refine iR2 ?_; refine r2b ?_)); (first | (refine iS ?_; refine iMu ?_; refine S.mapU ?_) | refine svz ⟨fun b hq => ?_⟩ | refine sv1 ?_ | refine svs ⟨?_⟩ | refine svu ⟨fun u => ?_⟩ | (refine svg (fun hg => ?_) (fun hg => ?_) <;> try (exfalso; first | omega | contradiction)) | (refine svc (fun hc => ?_) (fun hc => ?_) <;> try (exfalso; first | omega | contradiction)) | refine sv2 ?_ | refine svh (fun hb => ?_) (fun hb => ?_) | refine svb (fun b => ?_) | refine sva ?_ | refine sv3 ?_)))
          refine R2.one (kk := 4) ?_
          (repeat' ((fail_if_success (refine iR2 ?_; refine r2b ?_)); (first | (refine iS ?_; refine iMu ?_; refine S.mapU ?_) | refine svz ⟨fun b hq => ?_⟩ | refine sv1 ?_ | refine svs ⟨?_⟩ | refine svu ⟨fun u => ?_⟩ | (refine svg (fun hg => ?_) (fun hg => ?_) <;> try (exfalso; first | omega | contradiction)) | (refine svc (fun hc => ?_) (fun hc => ?_) <;> try (exfalso; first | omega | contradiction)) | refine sv2 ?_ | refine svh (fun hb => ?_) (fun hb => ?_) | refine svb (fun b => ?_) | refine sva ?_ | refine sv3 ?_)))
          refine R2.C (o1 _) ?_
          (repeat' ((fail_if_success (refine iR2 ?_; refine r2b ?_)); (first | (refine iS ?_; refine iMu ?_; refine S.mapU ?_) | refine svz ⟨fun b hq => ?_⟩ | refine sv1 ?_ | refine svs ⟨?_⟩ | refine svu ⟨fun u => ?_⟩ | (refine svg (fun hg => ?_) (fun hg => ?_) <;> try (exfalso; first | omega | contradiction)) | (refine svc (fun hc => ?_) (fun hc => ?_) <;> try (exfalso; first | omega | contradiction)) | refine sv2 ?_ | refine svh (fun hb => ?_) (fun hb => ?_) | refine svb (fun b => ?_) | refine sva ?_ | refine sv3 ?_)))
          refine R2.C (s1 _) ?_
          (repeat' ((fail_if_success (refine iR2 ?_; refine r2b ?_)); (first | (refine iS ?_; refine iMu ?_; refine S.mapU ?_) | refine svz ⟨fun b hq => ?_⟩ | refine sv1 ?_ | refine svs ⟨?_⟩ | refine svu ⟨fun u => ?_⟩ | (refine svg (fun hg => ?_) (fun hg => ?_) <;> try (exfalso; first | omega | contradiction)) | (refine svc (fun hc => ?_) (fun hc => ?_) <;> try (exfalso; first | omega | contradiction)) | refine sv2 ?_ | refine svh (fun hb => ?_) (fun hb => ?_) | refine svb (fun b => ?_) | refine sva ?_ | refine sv3 ?_)))
          refine R2.C (aw _) ?_
          (repeat' ((fail_if_success (refine iR2 ?_; refine r2b ?_)); (first | (refine iS ?_; refine iMu ?_; refine S.mapU ?_) | refine svz ⟨fun b hq => ?_⟩ | refine sv1 ?_ | refine svs ⟨?_⟩ | refine svu ⟨fun u => ?_⟩ | (refine svg (fun hg => ?_) (fun hg => ?_) <;> try (exfalso; first | omega | contradiction)) | (refine svc (fun hc => ?_) (fun hc => ?_) <;> try (exfalso; first | omega | contradiction)) | refine sv2 ?_ | refine svh (fun hb => ?_) (fun hb => ?_) | refine svb (fun b => ?_) | refine sva ?_ | refine sv3 ?_)))
          exact fin_r (h' := _) rfl
        · have o2 := fun h => grow_sq_big x y n h hc ⟨hn0, hb.2⟩ hq
          rw [decide_eq_false hq] at cs
          generalize [oneR x y] = R at *
          unfold regE at *
          refine ACalls.intro Try.func6 rfl Try.ntmps6 Try.results6 (Nat.le_of_ble_eq_true rfl) ?_
          (repeat' (first | (refine iR2 ?_; refine r2b ?_; refine R2.one ?_) | (refine iS ?_; refine iN ?_; refine S.build1r ?_) | (refine iS ?_; refine iMu ?_; refine S.mapU ?_) | refine svz ⟨fun b hq => ?_⟩ | refine sv1 ?_ | refine svs ⟨?_⟩ | refine svu ⟨fun u => ?_⟩ | (refine svg (fun hg => ?_) (fun hg => ?_) <;> try (exfalso; first | omega | contradiction)) | (refine svc (fun hc => ?_) (fun hc => ?_) <;> try (exfalso; first | omega | contradiction)) | refine sv2 ?_ | refine svh (fun hb => ?_) (fun hb => ?_) | refine svb (fun b => ?_) | refine sva ?_ | refine sv3 ?_))
          refine S.call ?_; refine (o1 _).mono ?_; rintro r h' ⟨rfl, hh⟩; subst hh
          (repeat' (first | (refine iR2 ?_; refine r2b ?_; refine R2.one ?_) | (refine iS ?_; refine iN ?_; refine S.build1r ?_) | (refine iS ?_; refine iMu ?_; refine S.mapU ?_) | refine svz ⟨fun b hq => ?_⟩ | refine sv1 ?_ | refine svs ⟨?_⟩ | refine svu ⟨fun u => ?_⟩ | (refine svg (fun hg => ?_) (fun hg => ?_) <;> try (exfalso; first | omega | contradiction)) | (refine svc (fun hc => ?_) (fun hc => ?_) <;> try (exfalso; first | omega | contradiction)) | refine sv2 ?_ | refine svh (fun hb => ?_) (fun hb => ?_) | refine svb (fun b => ?_) | refine sva ?_ | refine sv3 ?_))
          refine S.call ?_; refine (o2 _).mono ?_; rintro r h' ⟨rfl, hh⟩; subst hh
          (repeat' (first | (refine iR2 ?_; refine r2b ?_; refine R2.one ?_) | (refine iS ?_; refine iN ?_; refine S.build1r ?_) | (refine iS ?_; refine iMu ?_; refine S.mapU ?_) | refine svz ⟨fun b hq => ?_⟩ | refine sv1 ?_ | refine svs ⟨?_⟩ | refine svu ⟨fun u => ?_⟩ | (refine svg (fun hg => ?_) (fun hg => ?_) <;> try (exfalso; first | omega | contradiction)) | (refine svc (fun hc => ?_) (fun hc => ?_) <;> try (exfalso; first | omega | contradiction)) | refine sv2 ?_ | refine svh (fun hb => ?_) (fun hb => ?_) | refine svb (fun b => ?_) | refine sva ?_ | refine sv3 ?_))
          refine S.call ?_; refine (ct _).mono ?_; rintro r h' ⟨rfl, hh⟩; subst hh
          (repeat' (first | (refine iR2 ?_; refine r2b ?_; refine R2.one ?_) | (refine iS ?_; refine iN ?_; refine S.build1r ?_) | (refine iS ?_; refine iMu ?_; refine S.mapU ?_) | refine svz ⟨fun b hq => ?_⟩ | refine sv1 ?_ | refine svs ⟨?_⟩ | refine svu ⟨fun u => ?_⟩ | (refine svg (fun hg => ?_) (fun hg => ?_) <;> try (exfalso; first | omega | contradiction)) | (refine svc (fun hc => ?_) (fun hc => ?_) <;> try (exfalso; first | omega | contradiction)) | refine sv2 ?_ | refine svh (fun hb => ?_) (fun hb => ?_) | refine svb (fun b => ?_) | refine sva ?_ | refine sv3 ?_))
          refine S.call ?_; refine (cs _).mono ?_; rintro r h' ⟨rfl, hh⟩; subst hh
          (repeat' (first | (refine iR2 ?_; refine r2b ?_; refine R2.one ?_) | (refine iS ?_; refine iN ?_; refine S.build1r ?_) | (refine iS ?_; refine iMu ?_; refine S.mapU ?_) | refine svz ⟨fun b hq => ?_⟩ | refine sv1 ?_ | refine svs ⟨?_⟩ | refine svu ⟨fun u => ?_⟩ | (refine svg (fun hg => ?_) (fun hg => ?_) <;> try (exfalso; first | omega | contradiction)) | (refine svc (fun hc => ?_) (fun hc => ?_) <;> try (exfalso; first | omega | contradiction)) | refine sv2 ?_ | refine svh (fun hb => ?_) (fun hb => ?_) | refine svb (fun b => ?_) | refine sva ?_ | refine sv3 ?_))
          refine S.call ?_; refine (em _).mono ?_; rintro r h' ⟨rfl, hh⟩; subst hh
          (repeat' (first | (refine iR2 ?_; refine r2b ?_; refine R2.one ?_) | (refine iS ?_; refine iN ?_; refine S.build1r ?_) | (refine iS ?_; refine iMu ?_; refine S.mapU ?_) | refine svz ⟨fun b hq => ?_⟩ | refine sv1 ?_ | refine svs ⟨?_⟩ | refine svu ⟨fun u => ?_⟩ | (refine svg (fun hg => ?_) (fun hg => ?_) <;> try (exfalso; first | omega | contradiction)) | (refine svc (fun hc => ?_) (fun hc => ?_) <;> try (exfalso; first | omega | contradiction)) | refine sv2 ?_ | refine svh (fun hb => ?_) (fun hb => ?_) | refine svb (fun b => ?_) | refine sva ?_ | refine sv3 ?_))
          refine S.call ?_; refine (aw _).mono ?_; rintro r h' ⟨rfl, hh⟩; subst hh
          (repeat' (first | (refine iR2 ?_; refine r2b ?_; refine R2.one ?_) | (refine iS ?_; refine iN ?_; refine S.build1r ?_) | (refine iS ?_; refine iMu ?_; refine S.mapU ?_) | refine svz ⟨fun b hq => ?_⟩ | refine sv1 ?_ | refine svs ⟨?_⟩ | refine svu ⟨fun u => ?_⟩ | (refine svg (fun hg => ?_) (fun hg => ?_) <;> try (exfalso; first | omega | contradiction)) | (refine svc (fun hc => ?_) (fun hc => ?_) <;> try (exfalso; first | omega | contradiction)) | refine sv2 ?_ | refine svh (fun hb => ?_) (fun hb => ?_) | refine svb (fun b => ?_) | refine sva ?_ | refine sv3 ?_))
          exact fin_r (h' := _) rfl
    · have o2 := fun h => grow_nil_c n h hb
      rw [of_not hc] at o1
      rw [decide_eq_false hc] at ct
      unfold regE at *
      refine ACalls.intro Try.func6 rfl Try.ntmps6 Try.results6 (Nat.le_of_ble_eq_true rfl) ?_
      (repeat' (first | (refine iR2 ?_; refine r2b ?_; refine R2.one ?_) | (refine iS ?_; refine iN ?_; refine S.build1r ?_) | (refine iS ?_; refine iMu ?_; refine S.mapU ?_) | refine svz ⟨fun b hq => ?_⟩ | refine sv1 ?_ | refine svs ⟨?_⟩ | refine svu ⟨fun u => ?_⟩ | (refine svg (fun hg => ?_) (fun hg => ?_) <;> try (exfalso; first | omega | contradiction)) | (refine svc (fun hc => ?_) (fun hc => ?_) <;> try (exfalso; first | omega | contradiction)) | refine sv2 ?_ | refine svh (fun hb => ?_) (fun hb => ?_) | refine svb (fun b => ?_) | refine sva ?_ | refine sv3 ?_))
      refine S.call ?_; refine (o1 _).mono ?_; rintro r h' ⟨rfl, hh⟩; subst hh
      (repeat' (first | (refine iR2 ?_; refine r2b ?_; refine R2.one ?_) | (refine iS ?_; refine iN ?_; refine S.build1r ?_) | (refine iS ?_; refine iMu ?_; refine S.mapU ?_) | refine svz ⟨fun b hq => ?_⟩ | refine sv1 ?_ | refine svs ⟨?_⟩ | refine svu ⟨fun u => ?_⟩ | (refine svg (fun hg => ?_) (fun hg => ?_) <;> try (exfalso; first | omega | contradiction)) | (refine svc (fun hc => ?_) (fun hc => ?_) <;> try (exfalso; first | omega | contradiction)) | refine sv2 ?_ | refine svh (fun hb => ?_) (fun hb => ?_) | refine svb (fun b => ?_) | refine sva ?_ | refine sv3 ?_))
      refine S.call ?_; refine (o2 _).mono ?_; rintro r h' ⟨rfl, hh⟩; subst hh
      (repeat' (first | (refine iR2 ?_; refine r2b ?_; refine R2.one ?_) | (refine iS ?_; refine iN ?_; refine S.build1r ?_) | (refine iS ?_; refine iMu ?_; refine S.mapU ?_) | refine svz ⟨fun b hq => ?_⟩ | refine sv1 ?_ | refine svs ⟨?_⟩ | refine svu ⟨fun u => ?_⟩ | (refine svg (fun hg => ?_) (fun hg => ?_) <;> try (exfalso; first | omega | contradiction)) | (refine svc (fun hc => ?_) (fun hc => ?_) <;> try (exfalso; first | omega | contradiction)) | refine sv2 ?_ | refine svh (fun hb => ?_) (fun hb => ?_) | refine svb (fun b => ?_) | refine sva ?_ | refine sv3 ?_))
      refine S.call ?_; refine (ct _).mono ?_; rintro r h' ⟨rfl, hh⟩; subst hh
      (repeat' (first | (refine iR2 ?_; refine r2b ?_; refine R2.one ?_) | (refine iS ?_; refine iN ?_; refine S.build1r ?_) | (refine iS ?_; refine iMu ?_; refine S.mapU ?_) | refine svz ⟨fun b hq => ?_⟩ | refine sv1 ?_ | refine svs ⟨?_⟩ | refine svu ⟨fun u => ?_⟩ | (refine svg (fun hg => ?_) (fun hg => ?_) <;> try (exfalso; first | omega | contradiction)) | (refine svc (fun hc => ?_) (fun hc => ?_) <;> try (exfalso; first | omega | contradiction)) | refine sv2 ?_ | refine svh (fun hb => ?_) (fun hb => ?_) | refine svb (fun b => ?_) | refine sva ?_ | refine sv3 ?_))
      refine S.call ?_; refine (em _).mono ?_; rintro r h' ⟨rfl, hh⟩; subst hh
      (repeat' (first | (refine iR2 ?_; refine r2b ?_; refine R2.one ?_) | (refine iS ?_; refine iN ?_; refine S.build1r ?_) | (refine iS ?_; refine iMu ?_; refine S.mapU ?_) | refine svz ⟨fun b hq => ?_⟩ | refine sv1 ?_ | refine svs ⟨?_⟩ | refine svu ⟨fun u => ?_⟩ | (refine svg (fun hg => ?_) (fun hg => ?_) <;> try (exfalso; first | omega | contradiction)) | (refine svc (fun hc => ?_) (fun hc => ?_) <;> try (exfalso; first | omega | contradiction)) | refine sv2 ?_ | refine svh (fun hb => ?_) (fun hb => ?_) | refine svb (fun b => ?_) | refine sva ?_ | refine sv3 ?_))
      refine S.call ?_; refine (aw _).mono ?_; rintro r h' ⟨rfl, hh⟩; subst hh
      (repeat' (first | (refine iR2 ?_; refine r2b ?_; refine R2.one ?_) | (refine iS ?_; refine iN ?_; refine S.build1r ?_) | (refine iS ?_; refine iMu ?_; refine S.mapU ?_) | refine svz ⟨fun b hq => ?_⟩ | refine sv1 ?_ | refine svs ⟨?_⟩ | refine svu ⟨fun u => ?_⟩ | (refine svg (fun hg => ?_) (fun hg => ?_) <;> try (exfalso; first | omega | contradiction)) | (refine svc (fun hc => ?_) (fun hc => ?_) <;> try (exfalso; first | omega | contradiction)) | refine sv2 ?_ | refine svh (fun hb => ?_) (fun hb => ?_) | refine svb (fun b => ?_) | refine sva ?_ | refine sv3 ?_))
      exact fin_r (h' := _) rfl
end Go.Proofs.Ytdknjjgmmmmfjaa
