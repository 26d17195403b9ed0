/- BandOrder. No condition. -/
import Derived.Test.YtifpcjnjfdjcdaaB18
namespace Go.Proofs.Ytifpcjnjfdjcdaa
open Go Go.VM
attribute [local irreducible] PurV Pur Step RL W D ACalls Then InBlock Fini
set_option linter.unusedVariables false
set_option linter.unusedSimpArgs false
set_option maxHeartbeats 20000000
theorem getD_lt {α : Type} {l : List α} {i : Nat} {d : α} (h : i < l.length) : l.getD i d = l[i] := by simp [List.getD, h]
/-- A rectangle, cut in two or whole. -/
def cutR (r : RC) (n : Int) : List RC := [⟨r.x + n, r.y, r.w - n, r.h⟩, ⟨r.x, r.y, n, r.h⟩]
def pieceF (cs : List Int) (i : Nat) (r : RC) : List RC := if i < cs.length ∧ r.cnt ∧ 1 < r.w then cutR r (1 + cs.getD i 0 % (r.w - 1)) else [r]
def otherF (l : List RC) (f : Nat → Nat) (cs : List Int) (k : Nat) : List RC := (List.range k).flatMap fun i => pieceF cs i (l.getD (f i) ⟨0, 0, 0, 0⟩)
theorem cut_at {r : RC} (hc : r.cnt) (hw : 1 < r.w) (c : Int) : 1 ≤ 1 + c % (r.w - 1) ∧ 1 + c % (r.w - 1) < r.w := by
  have h1 := Int.emod_nonneg c (show r.w - 1 ≠ 0 by omega)
  have h2 := Int.emod_lt_of_pos c (show 0 < r.w - 1 by omega)
  omega
theorem cutR_cnt {r : RC} (hc : r.cnt) {n : Int} (h : 1 ≤ n ∧ n < r.w) : ∀ q ∈ cutR r n, q.cnt := by
  obtain ⟨⟨a1, a2, a3⟩, a4⟩ := hc
  intro q hq
  unfold cutR at hq
  simp only [List.mem_cons, List.not_mem_nil, or_false] at hq
  rcases hq with rfl | rfl
  · exact ⟨by unfold fitP; simp only; omega, a4⟩
  · exact ⟨by unfold fitP; simp only; omega, a4⟩
theorem pieceF_ok {cs : List Int} {i : Nat} {r : RC} (h : r.ok) : ∀ q ∈ pieceF cs i r, q.ok := by
  intro q hq
  unfold pieceF at hq
  split at hq
  · rename_i hc
    exact cnt_ok (cutR_cnt hc.2.1 (cut_at hc.2.1 hc.2.2 _) q hq)
  · rw [List.mem_singleton.1 hq]; exact h
theorem pieceF_has (cs : List Int) (i : Nat) (r : RC) (x y : Int) : hasF (pieceF cs i r) x y = hasF [r] x y := by
  unfold pieceF
  split
  · rename_i hc
    obtain ⟨_, hc, hw⟩ := hc
    have h := cut_at hc hw (cs.getD i 0)
    have hcn := cutR_cnt hc h
    generalize 1 + cs.getD i 0 % (r.w - 1) = n at *
    rw [hasF_cnt hcn, hasF_cnt (l := [r]) (fun q hq => by rw [List.mem_singleton.1 hq]; exact hc), Bool.eq_iff_iff, hasR_iff, hasR_iff]
    unfold cutR RC.has
    simp only [List.mem_cons, List.not_mem_nil, or_false, exists_eq_or_imp, exists_eq_left]
    omega
  · rfl
theorem hasF_flat {α : Type} (L : List α) (g : α → List RC) (x y : Int) : hasF (L.flatMap g) x y = true ↔ ∃ a ∈ L, hasF (g a) x y = true := by
  simp only [hasF_iff, List.mem_flatMap]
  constructor
  · rintro ⟨r, ⟨a, ha, hr⟩, h⟩; exact ⟨a, ha, r, hr, h⟩
  · rintro ⟨a, ha, r, hr, h⟩; exact ⟨r, ⟨a, ha, hr⟩, h⟩
theorem turn_on {n t j : Nat} (hj : j < n) : ∃ i, i < n ∧ (i + t) % n = j := by
  have hn : 0 < n := by omega
  have hm := Nat.mod_lt t hn
  refine ⟨(j + (n - t % n)) % n, Nat.mod_lt _ hn, ?_⟩
  have e : t = n * (t / n) + t % n := (Nat.div_add_mod t n).symm
  have e1 : ((j + (n - t % n)) % n + t) % n = ((j + (n - t % n)) + t) % n := by rw [Nat.add_mod, Nat.mod_mod, ← Nat.add_mod]
  rw [e1]
  have e2 : j + (n - t % n) + t = j + n * (t / n + 1) := by
    rw [Nat.mul_add, Nat.mul_one]
    generalize n * (t / n) = z at *
    omega
  rw [e2, Nat.add_mul_mod_self_left, Nat.mod_eq_of_lt hj]
theorem hasF_other {l : List RC} (t : Nat) (cs : List Int) (x y : Int) : hasF (otherF l (fun i => (i + t) % l.length) cs l.length) x y = hasF l x y := by
  rw [Bool.eq_iff_iff]
  unfold otherF
  rw [hasF_flat]
  constructor
  · rintro ⟨i, hi, h⟩
    rw [pieceF_has] at h
    obtain ⟨r, hr, h⟩ := hasF_iff.1 h
    have hi := List.mem_range.1 hi
    have hlt : (i + t) % l.length < l.length := Nat.mod_lt _ (by omega)
    rw [List.mem_singleton.1 hr, getD_lt hlt] at h
    exact hasF_iff.2 ⟨_, List.getElem_mem hlt, h⟩
  · intro h
    obtain ⟨r, hr, h⟩ := hasF_iff.1 h
    obtain ⟨j, hj, rfl⟩ := List.mem_iff_getElem.1 hr
    obtain ⟨i, hi, hij⟩ := turn_on (t := t) hj
    refine ⟨i, List.mem_range.2 hi, ?_⟩
    rw [pieceF_has]
    refine hasF_iff.2 ⟨_, List.mem_singleton.2 rfl, ?_⟩
    dsimp only
    rw [hij, getD_lt hj]
    exact h
theorem otherF_succ (l : List RC) (f : Nat → Nat) (cs : List Int) (k : Nat) : otherF l f cs (k + 1) = otherF l f cs k ++ pieceF cs k (l.getD (f k) ⟨0, 0, 0, 0⟩) := by
  unfold otherF; rw [List.range_succ, List.flatMap_append]; simp
theorem otherF_len (l : List RC) (f : Nat → Nat) (cs : List Int) : ∀ k, (otherF l f cs k).length ≤ 2 * k
  | 0 => by simp [otherF]
  | k + 1 => by
    have := otherF_len l f cs k
    rw [otherF_succ, List.length_append]
    have : (pieceF cs k (l.getD (f k) ⟨0, 0, 0, 0⟩)).length ≤ 2 := by unfold pieceF; split <;> simp [cutR]
    omega
theorem otherF_ok {l : List RC} {f : Nat → Nat} {cs : List Int} (ok : ∀ r ∈ l, r.ok) (hf : ∀ i, f i < l.length) (k : Nat) : ∀ r ∈ otherF l f cs k, r.ok := by
  intro r hr
  unfold otherF at hr
  obtain ⟨i, hi, hr⟩ := List.mem_flatMap.1 hr
  refine pieceF_ok ?_ r hr
  rw [getD_lt (hf i)]
  exact ok _ (List.getElem_mem _)
set_option maxRecDepth 100000 in
theorem orders_c (l : List RC) (t : Nat) (cs : List Int) (h : Heap) (ok : ∀ r ∈ l, r.ok) (ht : t ≤ 255) (hcs : ∀ c ∈ cs, 0 ≤ c ∧ c ≤ 255) : ACalls Try.prog 5 [.ro 4 (l.map RC.enc), .val (.int .u8 (t : Int)), .ro 1 (ints .u8 cs)] h (fun r h' => r = .val (.bool true)) := by
  refine ACalls.intro Try.func5 rfl Try.ntmps5 Try.results5 (Nat.le_of_ble_eq_true rfl) ?_
  refine W.len 0 rfl (fun hlen => ?_); simp only [ints, splice, List.length_map, List.length_append, List.length_cons, List.length_nil, List.length_take, List.length_drop, List.length_set, List.length_replicate] at hlen
  refine W.len 2 rfl (fun hlcs => ?_); simp only [ints, splice, List.length_map, List.length_append, List.length_cons, List.length_nil, List.length_take, List.length_drop, List.length_set, List.length_replicate] at hlcs
  by_cases hl : 30 < l.length
  · (repeat' (first | (refine iS ?_; refine iMu ?_; refine S.mapU ?_) | refine svz ⟨fun b hq => ?_⟩ | refine sv1 ?_ | refine svs ⟨?_⟩ | refine svu ⟨fun u => ?_⟩ | (refine svg (fun hg => ?_) (fun hg => ?_) <;> try (exfalso; first | omega | contradiction)) | (refine svc (fun hc => ?_) (fun hc => ?_) <;> try (exfalso; first | omega | contradiction)) | refine sv2 ?_ | refine svh (fun hb => ?_) (fun hb => ?_) | refine svb (fun b => ?_) | refine sva ?_ | refine sv3 ?_))
    refine S.call ?_; refine (awake_c _).mono ?_; rintro r h' ⟨rfl, hh⟩; subst hh
    (repeat' (first | (refine iS ?_; refine iMu ?_; refine S.mapU ?_) | refine svz ⟨fun b hq => ?_⟩ | refine sv1 ?_ | refine svs ⟨?_⟩ | refine svu ⟨fun u => ?_⟩ | (refine svg (fun hg => ?_) (fun hg => ?_) <;> try (exfalso; first | omega | contradiction)) | (refine svc (fun hc => ?_) (fun hc => ?_) <;> try (exfalso; first | omega | contradiction)) | refine sv2 ?_ | refine svh (fun hb => ?_) (fun hb => ?_) | refine svb (fun b => ?_) | refine sva ?_ | refine sv3 ?_))
    exact fin_r (h' := _) rfl
  by_cases hl0 : l.length = 0
  · (repeat' (first | (refine iS ?_; refine iMu ?_; refine S.mapU ?_) | refine svz ⟨fun b hq => ?_⟩ | refine sv1 ?_ | refine svs ⟨?_⟩ | refine svu ⟨fun u => ?_⟩ | (refine svg (fun hg => ?_) (fun hg => ?_) <;> try (exfalso; first | omega | contradiction)) | (refine svc (fun hc => ?_) (fun hc => ?_) <;> try (exfalso; first | omega | contradiction)) | refine sv2 ?_ | refine svh (fun hb => ?_) (fun hb => ?_) | refine svb (fun b => ?_) | refine sva ?_ | refine sv3 ?_))
    refine S.call ?_; refine (awake_c _).mono ?_; rintro r h' ⟨rfl, hh⟩; subst hh
    (repeat' (first | (refine iS ?_; refine iMu ?_; refine S.mapU ?_) | refine svz ⟨fun b hq => ?_⟩ | refine sv1 ?_ | refine svs ⟨?_⟩ | refine svu ⟨fun u => ?_⟩ | (refine svg (fun hg => ?_) (fun hg => ?_) <;> try (exfalso; first | omega | contradiction)) | (refine svc (fun hc => ?_) (fun hc => ?_) <;> try (exfalso; first | omega | contradiction)) | refine sv2 ?_ | refine svh (fun hb => ?_) (fun hb => ?_) | refine svb (fun b => ?_) | refine sva ?_ | refine sv3 ?_))
    exact fin_r (h' := _) rfl
  by_cases hl2 : 30 < cs.length
  · (repeat' (first | (refine iS ?_; refine iMu ?_; refine S.mapU ?_) | refine svz ⟨fun b hq => ?_⟩ | refine sv1 ?_ | refine svs ⟨?_⟩ | refine svu ⟨fun u => ?_⟩ | (refine svg (fun hg => ?_) (fun hg => ?_) <;> try (exfalso; first | omega | contradiction)) | (refine svc (fun hc => ?_) (fun hc => ?_) <;> try (exfalso; first | omega | contradiction)) | refine sv2 ?_ | refine svh (fun hb => ?_) (fun hb => ?_) | refine svb (fun b => ?_) | refine sva ?_ | refine sv3 ?_))
    refine S.call ?_; refine (awake_c _).mono ?_; rintro r h' ⟨rfl, hh⟩; subst hh
    (repeat' (first | (refine iS ?_; refine iMu ?_; refine S.mapU ?_) | refine svz ⟨fun b hq => ?_⟩ | refine sv1 ?_ | refine svs ⟨?_⟩ | refine svu ⟨fun u => ?_⟩ | (refine svg (fun hg => ?_) (fun hg => ?_) <;> try (exfalso; first | omega | contradiction)) | (refine svc (fun hc => ?_) (fun hc => ?_) <;> try (exfalso; first | omega | contradiction)) | refine sv2 ?_ | refine svh (fun hb => ?_) (fun hb => ?_) | refine svb (fun b => ?_) | refine sva ?_ | refine sv3 ?_))
    exact fin_r (h' := _) rfl
  (repeat' (first | (refine iS ?_; refine iMu ?_; refine S.mapU ?_) | refine svz ⟨fun b hq => ?_⟩ | refine sv1 ?_ | refine svs ⟨?_⟩ | refine svu ⟨fun u => ?_⟩ | (refine svg (fun hg => ?_) (fun hg => ?_) <;> try (exfalso; first | omega | contradiction)) | (refine svc (fun hc => ?_) (fun hc => ?_) <;> try (exfalso; first | omega | contradiction)) | refine sv2 ?_ | refine svh (fun hb => ?_) (fun hb => ?_) | refine svb (fun b => ?_) | refine sva ?_ | refine sv3 ?_))
  refine W.nil_ 4 35 ?_
  refine W.loop (J := fun q : Nat × Value => ⟨106, [(8, .val (.int .i64 (q.1 : Int))), (7, .val q.2), (0, .ro 4 (l.map RC.enc)), (1, .val (.int .u8 (t : Int))), (2, .ro 1 (ints .u8 cs))], .own q.2 4 ((otherF l (fun i => (i + t) % l.length) cs q.1).map RC.enc) 35 :: h⟩)
    (Φ := fun q => q.1 ≤ l.length) (μ := fun q => l.length - q.1) (0, .slice none 0 0) (by dsimp only; rw [show otherF l (fun i => (i + t) % l.length) cs 0 = [] from rfl]; exact ⟨rfl, (by repeat (first | exact LeT.nil | refine LeT.cons rfl ?_ | refine LeT.consw rfl (by (repeat (first | exact Wk.refl _ | exact Wk.nilr _ | exact Wk.nilm | apply Wk.aggc | apply Wk.tupc | exact Wk.aggn | exact Wk.tupn)); first | done | fail) ?_)), (by repeat (first | exact LeH.refl _ | exact LeH.nil _ | refine LeH.cons (by (fail_if_success (apply tkG)); (repeat (first | exact Tk.here | apply Tk.there)); first | done | fail) ?_ | refine LeH.boxw (by (fail_if_success (apply tkG)); (repeat (first | exact Tk.here | apply Tk.there)); first | done | fail) (by (repeat (first | exact Wk.refl _ | exact Wk.nilr _ | exact Wk.nilm | apply Wk.aggc | apply Wk.tupc | exact Wk.aggn | exact Wk.tupn)); first | done | fail) ?_ | refine LeH.skip ?_))⟩) (Nat.zero_le _) ?_
  rintro ⟨k, v⟩ hk
  dsimp only at hk ⊢
  have hfl : ∀ i, (i + t) % l.length < l.length := fun i => Nat.mod_lt _ (by omega)
  have hol := otherF_len l (fun i => (i + t) % l.length) cs k
  rcases Nat.lt_or_ge k l.length with hlt | hge
  · have hs := otherF_succ l (fun i => (i + t) % l.length) cs k
    have hkl := hfl k
    obtain ⟨r, hr⟩ : ∃ r, l[(k + t) % l.length]? = some r := ⟨_, List.getElem?_eq_getElem hkl⟩
    have hrd : l.getD ((k + t) % l.length) ⟨0, 0, 0, 0⟩ = r := by rw [List.getD_eq_getElem?_getD, hr]; rfl
    have hrok : r.ok := ok r (List.mem_of_getElem? hr)
    rw [hrd] at hs
    generalize otherF l (fun i => (i + t) % l.length) cs k = O at *
    have hx : ((k : Int) + (t : Int)) % (l.length : Int) = (((k + t) % l.length : Nat) : Int) := by rw [← Int.natCast_add, ← Int.natCast_emod]
    have hct := fun h => rcounts_c r h hrok
    by_cases hkc : k < cs.length
    · obtain ⟨c, hc⟩ : ∃ c, cs[k]? = some c := ⟨_, List.getElem?_eq_getElem hkc⟩
      have hcd : cs.getD k 0 = c := by rw [List.getD_eq_getElem?_getD, hc]; rfl
      have hcb := hcs c (List.mem_of_getElem? hc)
      by_cases hrc : r.cnt
      · rw [decide_eq_true hrc] at hct
        by_cases hw : 1 < r.w
        · have hp : pieceF cs k r = cutR r (1 + c % (r.w - 1)) := by unfold pieceF; rw [if_pos ⟨hkc, hrc, hw⟩, hcd]
          have hcut := cut_at hrc hw c
          have hmm := Int.emod_nonneg c (show r.w - 1 ≠ 0 by omega)
          rw [hp] at hs
          obtain ⟨⟨a1, a2, a3⟩, ⟨a4, a5, a6⟩⟩ := hrc
          (repeat' (first | (refine iS ?_; refine iMu ?_; refine S.mapU ?_) | refine svz ⟨fun b hq => ?_⟩ | refine sv1 ?_ | refine svs ⟨?_⟩ | refine svu ⟨fun u => ?_⟩ | (refine svg (fun hg => ?_) (fun hg => ?_) <;> try (exfalso; first | omega | contradiction)) | (refine svc (fun hc => ?_) (fun hc => ?_) <;> try (exfalso; first | omega | contradiction)) | refine sv2 ?_ | refine svh (fun hb => ?_) (fun hb => ?_) | refine svb (fun b => ?_) | refine sva ?_ | refine sv3 ?_))
          rw [hx]
          (repeat' (first | (refine iS ?_; refine iMu ?_; refine S.mapU ?_) | refine svz ⟨fun b hq => ?_⟩ | refine sv1 ?_ | refine svs ⟨?_⟩ | refine svu ⟨fun u => ?_⟩ | (refine svg (fun hg => ?_) (fun hg => ?_) <;> try (exfalso; first | omega | contradiction)) | (refine svc (fun hc => ?_) (fun hc => ?_) <;> try (exfalso; first | omega | contradiction)) | refine sv2 ?_ | refine svh (fun hb => ?_) (fun hb => ?_) | refine svb (fun b => ?_) | refine sva ?_ | refine sv3 ?_))
          refine S.call ?_; refine (hct _).mono ?_; rintro r h' ⟨rfl, hh⟩; subst hh
          (repeat' (first | (refine iS ?_; refine iMu ?_; refine S.mapU ?_) | refine svz ⟨fun b hq => ?_⟩ | refine sv1 ?_ | refine svs ⟨?_⟩ | refine svu ⟨fun u => ?_⟩ | (refine svg (fun hg => ?_) (fun hg => ?_) <;> try (exfalso; first | omega | contradiction)) | (refine svc (fun hc => ?_) (fun hc => ?_) <;> try (exfalso; first | omega | contradiction)) | refine sv2 ?_ | refine svh (fun hb => ?_) (fun hb => ?_) | refine svb (fun b => ?_) | refine sva ?_ | refine sv3 ?_))
          generalize c % (r.w - 1) = n at *
          (repeat' (first | (refine iS ?_; refine iMu ?_; refine S.mapU ?_) | refine svz ⟨fun b hq => ?_⟩ | refine sv1 ?_ | refine svs ⟨?_⟩ | refine svu ⟨fun u => ?_⟩ | (refine svg (fun hg => ?_) (fun hg => ?_) <;> try (exfalso; first | omega | contradiction)) | (refine svc (fun hc => ?_) (fun hc => ?_) <;> try (exfalso; first | omega | contradiction)) | refine sv2 ?_ | refine svh (fun hb => ?_) (fun hb => ?_) | refine svb (fun b => ?_) | refine sva ?_ | refine sv3 ?_))
          exact ⟨(k + 1, _), hlt, by dsimp only; rw [hs, List.map_append]; exact ⟨rfl, (by repeat (first | exact LeT.nil | refine LeT.cons rfl ?_ | refine LeT.consw rfl (by (repeat (first | exact Wk.refl _ | exact Wk.nilr _ | exact Wk.nilm | apply Wk.aggc | apply Wk.tupc | exact Wk.aggn | exact Wk.tupn)); first | done | fail) ?_)), (by repeat (first | exact LeH.refl _ | exact LeH.nil _ | refine LeH.cons (by (fail_if_success (apply tkG)); (repeat (first | exact Tk.here | apply Tk.there)); first | done | fail) ?_ | refine LeH.boxw (by (fail_if_success (apply tkG)); (repeat (first | exact Tk.here | apply Tk.there)); first | done | fail) (by (repeat (first | exact Wk.refl _ | exact Wk.nilr _ | exact Wk.nilm | apply Wk.aggc | apply Wk.tupc | exact Wk.aggn | exact Wk.tupn)); first | done | fail) ?_ | refine LeH.skip ?_))⟩, by dsimp only; omega⟩
        · have hp : pieceF cs k r = [r] := by unfold pieceF; rw [if_neg (fun h => hw h.2.2)]
          rw [hp] at hs
          (repeat' (first | (refine iS ?_; refine iMu ?_; refine S.mapU ?_) | refine svz ⟨fun b hq => ?_⟩ | refine sv1 ?_ | refine svs ⟨?_⟩ | refine svu ⟨fun u => ?_⟩ | (refine svg (fun hg => ?_) (fun hg => ?_) <;> try (exfalso; first | omega | contradiction)) | (refine svc (fun hc => ?_) (fun hc => ?_) <;> try (exfalso; first | omega | contradiction)) | refine sv2 ?_ | refine svh (fun hb => ?_) (fun hb => ?_) | refine svb (fun b => ?_) | refine sva ?_ | refine sv3 ?_))
          rw [hx]
          (repeat' (first | (refine iS ?_; refine iMu ?_; refine S.mapU ?_) | refine svz ⟨fun b hq => ?_⟩ | refine sv1 ?_ | refine svs ⟨?_⟩ | refine svu ⟨fun u => ?_⟩ | (refine svg (fun hg => ?_) (fun hg => ?_) <;> try (exfalso; first | omega | contradiction)) | (refine svc (fun hc => ?_) (fun hc => ?_) <;> try (exfalso; first | omega | contradiction)) | refine sv2 ?_ | refine svh (fun hb => ?_) (fun hb => ?_) | refine svb (fun b => ?_) | refine sva ?_ | refine sv3 ?_))
          refine S.call ?_; refine (hct _).mono ?_; rintro r h' ⟨rfl, hh⟩; subst hh
          (repeat' (first | (refine iS ?_; refine iMu ?_; refine S.mapU ?_) | refine svz ⟨fun b hq => ?_⟩ | refine sv1 ?_ | refine svs ⟨?_⟩ | refine svu ⟨fun u => ?_⟩ | (refine svg (fun hg => ?_) (fun hg => ?_) <;> try (exfalso; first | omega | contradiction)) | (refine svc (fun hc => ?_) (fun hc => ?_) <;> try (exfalso; first | omega | contradiction)) | refine sv2 ?_ | refine svh (fun hb => ?_) (fun hb => ?_) | refine svb (fun b => ?_) | refine sva ?_ | refine sv3 ?_))
          exact ⟨(k + 1, _), hlt, by dsimp only; rw [hs, List.map_append]; exact ⟨rfl, (by repeat (first | exact LeT.nil | refine LeT.cons rfl ?_ | refine LeT.consw rfl (by (repeat (first | exact Wk.refl _ | exact Wk.nilr _ | exact Wk.nilm | apply Wk.aggc | apply Wk.tupc | exact Wk.aggn | exact Wk.tupn)); first | done | fail) ?_)), (by repeat (first | exact LeH.refl _ | exact LeH.nil _ | refine LeH.cons (by (fail_if_success (apply tkG)); (repeat (first | exact Tk.here | apply Tk.there)); first | done | fail) ?_ | refine LeH.boxw (by (fail_if_success (apply tkG)); (repeat (first | exact Tk.here | apply Tk.there)); first | done | fail) (by (repeat (first | exact Wk.refl _ | exact Wk.nilr _ | exact Wk.nilm | apply Wk.aggc | apply Wk.tupc | exact Wk.aggn | exact Wk.tupn)); first | done | fail) ?_ | refine LeH.skip ?_))⟩, by dsimp only; omega⟩
      · have hp : pieceF cs k r = [r] := by unfold pieceF; rw [if_neg (fun h => hrc h.2.1)]
        rw [decide_eq_false hrc] at hct
        rw [hp] at hs
        (repeat' (first | (refine iS ?_; refine iMu ?_; refine S.mapU ?_) | refine svz ⟨fun b hq => ?_⟩ | refine sv1 ?_ | refine svs ⟨?_⟩ | refine svu ⟨fun u => ?_⟩ | (refine svg (fun hg => ?_) (fun hg => ?_) <;> try (exfalso; first | omega | contradiction)) | (refine svc (fun hc => ?_) (fun hc => ?_) <;> try (exfalso; first | omega | contradiction)) | refine sv2 ?_ | refine svh (fun hb => ?_) (fun hb => ?_) | refine svb (fun b => ?_) | refine sva ?_ | refine sv3 ?_))
        rw [hx]
        (repeat' (first | (refine iS ?_; refine iMu ?_; refine S.mapU ?_) | refine svz ⟨fun b hq => ?_⟩ | refine sv1 ?_ | refine svs ⟨?_⟩ | refine svu ⟨fun u => ?_⟩ | (refine svg (fun hg => ?_) (fun hg => ?_) <;> try (exfalso; first | omega | contradiction)) | (refine svc (fun hc => ?_) (fun hc => ?_) <;> try (exfalso; first | omega | contradiction)) | refine sv2 ?_ | refine svh (fun hb => ?_) (fun hb => ?_) | refine svb (fun b => ?_) | refine sva ?_ | refine sv3 ?_))
        refine S.call ?_; refine (hct _).mono ?_; rintro r h' ⟨rfl, hh⟩; subst hh
        (repeat' (first | (refine iS ?_; refine iMu ?_; refine S.mapU ?_) | refine svz ⟨fun b hq => ?_⟩ | refine sv1 ?_ | refine svs ⟨?_⟩ | refine svu ⟨fun u => ?_⟩ | (refine svg (fun hg => ?_) (fun hg => ?_) <;> try (exfalso; first | omega | contradiction)) | (refine svc (fun hc => ?_) (fun hc => ?_) <;> try (exfalso; first | omega | contradiction)) | refine sv2 ?_ | refine svh (fun hb => ?_) (fun hb => ?_) | refine svb (fun b => ?_) | refine sva ?_ | refine sv3 ?_))
        exact ⟨(k + 1, _), hlt, by dsimp only; rw [hs, List.map_append]; exact ⟨rfl, (by repeat (first | exact LeT.nil | refine LeT.cons rfl ?_ | refine LeT.consw rfl (by (repeat (first | exact Wk.refl _ | exact Wk.nilr _ | exact Wk.nilm | apply Wk.aggc | apply Wk.tupc | exact Wk.aggn | exact Wk.tupn)); first | done | fail) ?_)), (by repeat (first | exact LeH.refl _ | exact LeH.nil _ | refine LeH.cons (by (fail_if_success (apply tkG)); (repeat (first | exact Tk.here | apply Tk.there)); first | done | fail) ?_ | refine LeH.boxw (by (fail_if_success (apply tkG)); (repeat (first | exact Tk.here | apply Tk.there)); first | done | fail) (by (repeat (first | exact Wk.refl _ | exact Wk.nilr _ | exact Wk.nilm | apply Wk.aggc | apply Wk.tupc | exact Wk.aggn | exact Wk.tupn)); first | done | fail) ?_ | refine LeH.skip ?_))⟩, by dsimp only; omega⟩
    · have hp : pieceF cs k r = [r] := by unfold pieceF; rw [if_neg (fun h => hkc h.1)]
      rw [hp] at hs
      (repeat' (first | (refine iS ?_; refine iMu ?_; refine S.mapU ?_) | refine svz ⟨fun b hq => ?_⟩ | refine sv1 ?_ | refine svs ⟨?_⟩ | refine svu ⟨fun u => ?_⟩ | (refine svg (fun hg => ?_) (fun hg => ?_) <;> try (exfalso; first | omega | contradiction)) | (refine svc (fun hc => ?_) (fun hc => ?_) <;> try (exfalso; first | omega | contradiction)) | refine sv2 ?_ | refine svh (fun hb => ?_) (fun hb => ?_) | refine svb (fun b => ?_) | refine sva ?_ | refine sv3 ?_))
      rw [hx]
      (repeat' (first | (refine iS ?_; refine iMu ?_; refine S.mapU ?_) | refine svz ⟨fun b hq => ?_⟩ | refine sv1 ?_ | refine svs ⟨?_⟩ | refine svu ⟨fun u => ?_⟩ | (refine svg (fun hg => ?_) (fun hg => ?_) <;> try (exfalso; first | omega | contradiction)) | (refine svc (fun hc => ?_) (fun hc => ?_) <;> try (exfalso; first | omega | contradiction)) | refine sv2 ?_ | refine svh (fun hb => ?_) (fun hb => ?_) | refine svb (fun b => ?_) | refine sva ?_ | refine sv3 ?_))
      exact ⟨(k + 1, _), hlt, by dsimp only; rw [hs, List.map_append]; exact ⟨rfl, (by repeat (first | exact LeT.nil | refine LeT.cons rfl ?_ | refine LeT.consw rfl (by (repeat (first | exact Wk.refl _ | exact Wk.nilr _ | exact Wk.nilm | apply Wk.aggc | apply Wk.tupc | exact Wk.aggn | exact Wk.tupn)); first | done | fail) ?_)), (by repeat (first | exact LeH.refl _ | exact LeH.nil _ | refine LeH.cons (by (fail_if_success (apply tkG)); (repeat (first | exact Tk.here | apply Tk.there)); first | done | fail) ?_ | refine LeH.boxw (by (fail_if_success (apply tkG)); (repeat (first | exact Tk.here | apply Tk.there)); first | done | fail) (by (repeat (first | exact Wk.refl _ | exact Wk.nilr _ | exact Wk.nilm | apply Wk.aggc | apply Wk.tupc | exact Wk.aggn | exact Wk.tupn)); first | done | fail) ?_ | refine LeH.skip ?_))⟩, by dsimp only; omega⟩
  · have e : k = l.length := by omega
    subst e
    obtain ⟨r, hr⟩ : ∃ r, l[0]? = some r := ⟨_, List.getElem?_eq_getElem (by omega)⟩
    have hrm := List.mem_of_getElem? hr
    have hof := fun h => of_c l h (by omega) ok
    have hof2 := fun h => of_c (otherF l (fun i => (i + t) % l.length) cs l.length ++ [r]) h (by rw [List.length_append, List.length_singleton]; omega) (fun q hq => by
      rcases List.mem_append.1 hq with hq | hq
      · exact otherF_ok ok hfl _ q hq
      · rw [List.mem_singleton.1 hq]; exact ok r hrm)
    have he : ofF (otherF l (fun i => (i + t) % l.length) cs l.length ++ [r]) = ofF l := ofF_eq.2 fun x y => by
      unfold hasF
      rw [List.any_append]
      show (hasF _ x y || hasF [r] x y) = hasF l x y
      rw [hasF_other]
      cases hh : hasF [r] x y
      · simp
      · obtain ⟨q, hq, h1⟩ := hasF_iff.1 hh
        rw [List.mem_singleton.1 hq] at h1
        rw [hasF_iff.2 ⟨r, hrm, h1⟩]; rfl
    have hsa := fun h => same_c (ofF l) (ofF l) h
    rw [decide_eq_true rfl] at hsa
    simp only [he, List.map_append, List.map_cons, List.map_nil] at hof2
    generalize otherF l (fun i => (i + t) % l.length) cs l.length = O at *
    (repeat' (first | (refine iS ?_; refine iMu ?_; refine S.mapU ?_) | refine svz ⟨fun b hq => ?_⟩ | refine sv1 ?_ | refine svs ⟨?_⟩ | refine svu ⟨fun u => ?_⟩ | (refine svg (fun hg => ?_) (fun hg => ?_) <;> try (exfalso; first | omega | contradiction)) | (refine svc (fun hc => ?_) (fun hc => ?_) <;> try (exfalso; first | omega | contradiction)) | refine sv2 ?_ | refine svh (fun hb => ?_) (fun hb => ?_) | refine svb (fun b => ?_) | refine sva ?_ | refine sv3 ?_))
    refine S.call ?_; refine (hof _).mono ?_; rintro r h' ⟨rfl, hh⟩; subst hh
    (repeat' (first | (refine iS ?_; refine iMu ?_; refine S.mapU ?_) | refine svz ⟨fun b hq => ?_⟩ | refine sv1 ?_ | refine svs ⟨?_⟩ | refine svu ⟨fun u => ?_⟩ | (refine svg (fun hg => ?_) (fun hg => ?_) <;> try (exfalso; first | omega | contradiction)) | (refine svc (fun hc => ?_) (fun hc => ?_) <;> try (exfalso; first | omega | contradiction)) | refine sv2 ?_ | refine svh (fun hb => ?_) (fun hb => ?_) | refine svb (fun b => ?_) | refine sva ?_ | refine sv3 ?_))
    refine Step.frz (v := u) (by (fail_if_success (apply tkG)); (repeat (first | exact Tk.here | apply Tk.there)); first | done | fail) (by repeat' (first | apply FrzT.cons | exact FrzT.rest _ | exact Frz.hit | apply Frz.aggc | apply Frz.tupc | exact Frz.aggn | exact Frz.tupn | exact Frz.keep _)) (by repeat' (first | apply FrzH.box | apply FrzH.keep | exact FrzH.rest _ | exact Frz.hit | apply Frz.aggc | apply Frz.tupc | exact Frz.aggn | exact Frz.tupn | exact Frz.keep _)) ?_
    refine S.call ?_; refine (hof2 _).mono ?_; rintro r h' ⟨rfl, hh⟩; subst hh
    (repeat' (first | (refine iS ?_; refine iMu ?_; refine S.mapU ?_) | refine svz ⟨fun b hq => ?_⟩ | refine sv1 ?_ | refine svs ⟨?_⟩ | refine svu ⟨fun u => ?_⟩ | (refine svg (fun hg => ?_) (fun hg => ?_) <;> try (exfalso; first | omega | contradiction)) | (refine svc (fun hc => ?_) (fun hc => ?_) <;> try (exfalso; first | omega | contradiction)) | refine sv2 ?_ | refine svh (fun hb => ?_) (fun hb => ?_) | refine svb (fun b => ?_) | refine sva ?_ | refine sv3 ?_))
    refine S.call ?_; refine (hsa _).mono ?_; rintro r h' ⟨rfl, hh⟩; subst hh
    (repeat' (first | (refine iS ?_; refine iMu ?_; refine S.mapU ?_) | refine svz ⟨fun b hq => ?_⟩ | refine sv1 ?_ | refine svs ⟨?_⟩ | refine svu ⟨fun u => ?_⟩ | (refine svg (fun hg => ?_) (fun hg => ?_) <;> try (exfalso; first | omega | contradiction)) | (refine svc (fun hc => ?_) (fun hc => ?_) <;> try (exfalso; first | omega | contradiction)) | refine sv2 ?_ | refine svh (fun hb => ?_) (fun hb => ?_) | refine svb (fun b => ?_) | refine sva ?_ | refine sv3 ?_))
    refine S.call ?_; refine (awake_c _).mono ?_; rintro r h' ⟨rfl, hh⟩; subst hh
    (repeat' (first | (refine iS ?_; refine iMu ?_; refine S.mapU ?_) | refine svz ⟨fun b hq => ?_⟩ | refine sv1 ?_ | refine svs ⟨?_⟩ | refine svu ⟨fun u => ?_⟩ | (refine svg (fun hg => ?_) (fun hg => ?_) <;> try (exfalso; first | omega | contradiction)) | (refine svc (fun hc => ?_) (fun hc => ?_) <;> try (exfalso; first | omega | contradiction)) | refine sv2 ?_ | refine svh (fun hb => ?_) (fun hb => ?_) | refine svb (fun b => ?_) | refine sva ?_ | refine sv3 ?_))
    exact fin_r (h' := _) rfl
end Go.Proofs.Ytifpcjnjfdjcdaa
