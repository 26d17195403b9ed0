/- The law's ID, own, awake. No condition. -/
import Derived.Test.YtkpbbiknhhmfiaaQ14
import Derived.Test.YtkpbbiknhhmfiaaVM38
namespace Go.Proofs.Ytkpbbiknhhmfiaa
open Go Go.VM
attribute [local irreducible] PurV Pur Step RL W D ACalls Then InBlock Fini
set_option linter.unusedVariables false
set_option linter.unusedSimpArgs false
set_option maxHeartbeats 20000000
set_option maxRecDepth 100000 in
theorem id_c (n : Nat) (h : Heap) (hn : n ≤ 1000) : ACalls Try.prog 15 [.val (.int .i64 ((n : Int)))] h (fun r h' => r = .val (.int .u32 (idF n)) ∧ h' = h) := by
  by_cases h0 : n = 0
  · subst h0
    rw [idF_0]
    refine ACalls.intro Try.func15 rfl Try.ntmps15 Try.results15 (Nat.le_of_ble_eq_true rfl) ?_
    (repeat' (first | (refine iS ?_; refine iMu ?_; refine S.mapU ?_) | refine svz ⟨fun b hq => ?_⟩ | refine sv1 ?_ | refine svs ⟨?_⟩ | refine svu ⟨fun u => ?_⟩ | (refine svg (fun hg => ?_) (fun hg => ?_) <;> try (exfalso; first | omega | contradiction)) | (refine svc (fun hc => ?_) (fun hc => ?_) <;> try (exfalso; first | omega | contradiction)) | refine sv2 ?_ | refine svh (fun hb => ?_) (fun hb => ?_) | refine svb (fun b => ?_) | refine sva ?_ | refine sv3 ?_))
    exact fin_r (h' := h) ⟨rfl, rfl⟩
  · rw [idF_pos (by omega)]
    have h2 : (n : Int) % 2 = 0 ∨ (n : Int) % 2 = 1 := by omega
    refine ACalls.intro Try.func15 rfl Try.ntmps15 Try.results15 (Nat.le_of_ble_eq_true rfl) ?_
    (repeat' (first | (refine iS ?_; refine iMu ?_; refine S.mapU ?_) | refine svz ⟨fun b hq => ?_⟩ | refine sv1 ?_ | refine svs ⟨?_⟩ | refine svu ⟨fun u => ?_⟩ | (refine svg (fun hg => ?_) (fun hg => ?_) <;> try (exfalso; first | omega | contradiction)) | (refine svc (fun hc => ?_) (fun hc => ?_) <;> try (exfalso; first | omega | contradiction)) | refine sv2 ?_ | refine svh (fun hb => ?_) (fun hb => ?_) | refine svb (fun b => ?_) | refine sva ?_ | refine sv3 ?_))
    exact fin_r (h' := h) ⟨rfl, rfl⟩
instance : TEqS Try.prog 52 [true, true, true, true, false] := ⟨by kernel_rfl, by kernel_rfl, by kernel_rfl, by kernel_rfl⟩
def ownI (n : Nat) (k : Int) : Nat := (k % ((n : Int) + 1)).toNat
def ownF1 (n : Nat) (k : Int) : List Int := if 0 < ownI n k ∧ ownI n k % 2 = 0 then [idF (ownI n k)] else []
def ownF (n : Nat) : List Int → List Int
  | [] => []
  | k :: l => ownF1 n k ++ ownF n l
theorem ownF_snoc (n : Nat) (x : Int) : ∀ l, ownF n (l ++ [x]) = ownF n l ++ ownF1 n x
  | [] => by simp [ownF]
  | k :: l => by rw [List.cons_append]; unfold ownF; rw [ownF_snoc n x l, List.append_assoc]
theorem ownF1_mem {n : Nat} {k x : Int} (h : x ∈ ownF1 n k) : ∃ i, 0 < i ∧ i ≤ n ∧ i % 2 = 0 ∧ x = idF i := by
  unfold ownF1 at h
  split at h
  · rename_i q
    refine ⟨ownI n k, q.1, ?_, q.2, by simpa using h⟩
    unfold ownI
    have := Int.emod_lt_of_pos k (show (0 : Int) < (n : Int) + 1 by omega)
    omega
  · cases h
theorem ownF_mem {n : Nat} {x : Int} : ∀ {l : List Int}, x ∈ ownF n l → ∃ i, 0 < i ∧ i ≤ n ∧ i % 2 = 0 ∧ x = idF i
  | [], h => by cases h
  | k :: l, h => by
    unfold ownF at h
    rcases List.mem_append.1 h with h | h
    · exact ownF1_mem h
    · exact ownF_mem h
theorem ownF1_len (n : Nat) (k : Int) : (ownF1 n k).length ≤ 1 := by unfold ownF1; split <;> simp
theorem ownF_len (n : Nat) : ∀ l, (ownF n l).length ≤ l.length
  | [] => Nat.le_refl _
  | k :: l => by unfold ownF; rw [List.length_append, List.length_cons]; have := ownF1_len n k; have := ownF_len n l; omega
set_option maxRecDepth 100000 in
theorem own_c (n : Nat) (l : List Int) (h : Heap) (hn : n ≤ 100) (hl : l.length ≤ 1000) (hk : ∀ k ∈ l, 0 ≤ k ∧ k ≤ 255) : ACalls Try.prog 10 [.val (.int .i64 ((n : Int))), .ro 1 (ints .u8 l)] h (fun r h' => r = .ro 1 (ints .u32 (ownF n l)) ∧ h' = h) := by
  have ic := fun k h hk => id_c k h hk
  refine ACalls.frz (Q := fun r h' => ∃ v, r = .val v ∧ h' = .own v 1 (ints .u32 (ownF n l)) 43 :: h) ?_ (by rintro r h' ⟨v, rfl, rfl⟩; exact ⟨v, 1, _, _, _, h, .here, .hit, rfl, rfl⟩)
  refine ACalls.intro Try.func10 rfl Try.ntmps10 Try.results10 (Nat.le_of_ble_eq_true rfl) ?_
  (repeat' (first | (refine iS ?_; refine iMu ?_; refine S.mapU ?_) | refine svz ⟨fun b hq => ?_⟩ | refine sv1 ?_ | refine svs ⟨?_⟩ | refine svu ⟨fun u => ?_⟩ | (refine svg (fun hg => ?_) (fun hg => ?_) <;> try (exfalso; first | omega | contradiction)) | (refine svc (fun hc => ?_) (fun hc => ?_) <;> try (exfalso; first | omega | contradiction)) | refine sv2 ?_ | refine svh (fun hb => ?_) (fun hb => ?_) | refine svb (fun b => ?_) | refine sva ?_ | refine sv3 ?_))
  refine W.nil_ 1 43 ?_
  refine W.loop (J := fun x : Nat × Value => ⟨34, [(11, .val (.int .i64 ((x.1 : Nat)))), (10, .val (.int .i64 ((l.length : Nat)))), (9, .ro 1 (ints .u8 l)), (0, .val (.int .i64 ((n : Int)))), (5, .val x.2), (4, .val (.slice none 0 0))], .own x.2 1 (ints .u32 (ownF n (l.take x.1))) 43 :: h⟩)
    (Φ := fun x => x.1 ≤ l.length) (μ := fun x => l.length - x.1) (0, .slice none 0 0) ⟨rfl, (by repeat (first | exact LeT.nil | refine LeT.cons rfl ?_ | refine LeT.consw rfl (by (repeat (first | exact Wk.refl _ | exact Wk.nilr _ | exact Wk.nilm | apply Wk.aggc | apply Wk.tupc | exact Wk.aggn | exact Wk.tupn)); first | done | fail) ?_)), (by repeat (first | exact LeH.refl _ | exact LeH.nil _ | refine LeH.cons (by (fail_if_success (apply tkG)); (repeat (first | exact Tk.here | apply Tk.there)); first | done | fail) ?_ | refine LeH.boxw (by (fail_if_success (apply tkG)); (repeat (first | exact Tk.here | apply Tk.there)); first | done | fail) (by (repeat (first | exact Wk.refl _ | exact Wk.nilr _ | exact Wk.nilm | apply Wk.aggc | apply Wk.tupc | exact Wk.aggn | exact Wk.tupn)); first | done | fail) ?_ | refine LeH.skip ?_))⟩ (Nat.zero_le _) ?_
  rintro ⟨i, v⟩ hi
  dsimp only at hi ⊢
  rcases Nat.lt_or_ge i l.length with hlt | hge
  · obtain ⟨a, ha⟩ : ∃ a, l[i]? = some a := ⟨_, List.getElem?_eq_getElem hlt⟩
    have hka := hk a (List.mem_of_getElem? ha)
    have hs := ownF_snoc n a (l.take i)
    rw [show l.take i ++ [a] = l.take (i + 1) by rw [List.take_add_one, ha]; rfl] at hs
    have hO : (ownF n (l.take i)).length ≤ 1000 := Nat.le_trans (ownF_len _ _) (by rw [List.length_take]; omega)
    generalize ownF n (l.take i) = O at *
    unfold ownF1 at hs
    have hm : ((ownI n a : Nat) : Int) = a % ((n : Int) + 1) := by
      unfold ownI
      have := Int.emod_nonneg a (show ((n : Int) + 1) ≠ 0 by omega)
      omega
    have hm2 : ownI n a ≤ n := by
      unfold ownI
      have := Int.emod_lt_of_pos a (show (0 : Int) < (n : Int) + 1 by omega)
      omega
    have ic := fun h => ic (ownI n a) h (by omega)
    rw [hm] at ic
    by_cases hq : 0 < ownI n a ∧ ownI n a % 2 = 0
    · rw [if_pos hq] at hs
      have h5 : 0 < a % ((n : Int) + 1) := by omega
      have h6 : a % ((n : Int) + 1) % 2 = 0 := by omega
      generalize idF (ownI n a) = q at *
      clear hm hm2 hq
      (repeat' (first | (refine iS ?_; refine iMu ?_; refine S.mapU ?_) | refine svz ⟨fun b hq => ?_⟩ | refine sv1 ?_ | refine svs ⟨?_⟩ | refine svu ⟨fun u => ?_⟩ | (refine svg (fun hg => ?_) (fun hg => ?_) <;> try (exfalso; first | omega | contradiction)) | (refine svc (fun hc => ?_) (fun hc => ?_) <;> try (exfalso; first | omega | contradiction)) | refine sv2 ?_ | refine svh (fun hb => ?_) (fun hb => ?_) | refine svb (fun b => ?_) | refine sva ?_ | refine sv3 ?_))
      refine S.call ?_; refine (ic _).mono ?_; rintro r h' ⟨rfl, hh⟩; subst hh
      (repeat' (first | (refine iR2 ?_; refine r2b ?_; refine R2.one ?_) | (refine iS ?_; refine iN ?_; refine S.build1r ?_) | (refine iS ?_; refine iMu ?_; refine S.mapU ?_) | refine svz ⟨fun b hq => ?_⟩ | refine sv1 ?_ | refine svs ⟨?_⟩ | refine svu ⟨fun u => ?_⟩ | (refine svg (fun hg => ?_) (fun hg => ?_) <;> try (exfalso; first | omega | contradiction)) | (refine svc (fun hc => ?_) (fun hc => ?_) <;> try (exfalso; first | omega | contradiction)) | refine sv2 ?_ | refine svh (fun hb => ?_) (fun hb => ?_) | refine svb (fun b => ?_) | refine sva ?_ | refine sv3 ?_))
      exact ⟨(i + 1, u), hlt, by dsimp only; rw [hs, show ints .u32 (O ++ [q]) = ints .u32 O ++ [.val (.int .u32 q)] by simp [ints]]; exact ⟨rfl, (by repeat (first | exact LeT.nil | refine LeT.cons rfl ?_ | refine LeT.consw rfl (by (repeat (first | exact Wk.refl _ | exact Wk.nilr _ | exact Wk.nilm | apply Wk.aggc | apply Wk.tupc | exact Wk.aggn | exact Wk.tupn)); first | done | fail) ?_)), (by repeat (first | exact LeH.refl _ | exact LeH.nil _ | refine LeH.cons (by (fail_if_success (apply tkG)); (repeat (first | exact Tk.here | apply Tk.there)); first | done | fail) ?_ | refine LeH.boxw (by (fail_if_success (apply tkG)); (repeat (first | exact Tk.here | apply Tk.there)); first | done | fail) (by (repeat (first | exact Wk.refl _ | exact Wk.nilr _ | exact Wk.nilm | apply Wk.aggc | apply Wk.tupc | exact Wk.aggn | exact Wk.tupn)); first | done | fail) ?_ | refine LeH.skip ?_))⟩, by dsimp only; omega⟩
    · rw [if_neg hq, List.append_nil] at hs
      (repeat' (first | (refine iS ?_; refine iMu ?_; refine S.mapU ?_) | refine svz ⟨fun b hq => ?_⟩ | refine sv1 ?_ | refine svs ⟨?_⟩ | refine svu ⟨fun u => ?_⟩ | (refine svg (fun hg => ?_) (fun hg => ?_) <;> try (exfalso; first | omega | contradiction)) | (refine svc (fun hc => ?_) (fun hc => ?_) <;> try (exfalso; first | omega | contradiction)) | refine sv2 ?_ | refine svh (fun hb => ?_) (fun hb => ?_) | refine svb (fun b => ?_) | refine sva ?_ | refine sv3 ?_))
      all_goals first | (exfalso; omega) | exact ⟨(i + 1, v), hlt, by dsimp only; rw [hs]; exact ⟨rfl, (by repeat (first | exact LeT.nil | refine LeT.cons rfl ?_ | refine LeT.consw rfl (by (repeat (first | exact Wk.refl _ | exact Wk.nilr _ | exact Wk.nilm | apply Wk.aggc | apply Wk.tupc | exact Wk.aggn | exact Wk.tupn)); first | done | fail) ?_)), (by repeat (first | exact LeH.refl _ | exact LeH.nil _ | refine LeH.cons (by (fail_if_success (apply tkG)); (repeat (first | exact Tk.here | apply Tk.there)); first | done | fail) ?_ | refine LeH.boxw (by (fail_if_success (apply tkG)); (repeat (first | exact Tk.here | apply Tk.there)); first | done | fail) (by (repeat (first | exact Wk.refl _ | exact Wk.nilr _ | exact Wk.nilm | apply Wk.aggc | apply Wk.tupc | exact Wk.aggn | exact Wk.tupn)); first | done | fail) ?_ | refine LeH.skip ?_))⟩, by dsimp only; omega⟩
  · rw [List.take_of_length_le hge]
    (repeat' (first | (refine iS ?_; refine iMu ?_; refine S.mapU ?_) | refine svz ⟨fun b hq => ?_⟩ | refine sv1 ?_ | refine svs ⟨?_⟩ | refine svu ⟨fun u => ?_⟩ | (refine svg (fun hg => ?_) (fun hg => ?_) <;> try (exfalso; first | omega | contradiction)) | (refine svc (fun hc => ?_) (fun hc => ?_) <;> try (exfalso; first | omega | contradiction)) | refine sv2 ?_ | refine svh (fun hb => ?_) (fun hb => ?_) | refine svb (fun b => ?_) | refine sva ?_ | refine sv3 ?_))
    exact fin_r (h' := .own v 1 (ints .u32 (ownF n l)) 43 :: h) ⟨v, rfl, rfl⟩
def awUp : UP := [(1048578, 1), (2097153, 1048578)]
def awPt : PT := [(1, rootB 64 64), (1048578, ⟨10, 20, 9, 9, false, 0⟩), (2097153, ⟨3, 4, 5, 5, false, 0⟩)]
theorem awPth1 : Pth awUp 1048578 [1] := .up (by decide) (by decide) .root
set_option maxRecDepth 100000 in
theorem awake_c (h : Heap) : ACalls Try.prog 8 [] h (fun r h' => r = .val (.bool (true)) ∧ h' = h) := by
  have n1 := fun h => new_c h
  have a1 := fun h => add_c [] [] 1048578 1 h (by decide) (by decide) (by decide) (by decide) (by decide) (by decide) (by decide) (by decide) (by simp) (by decide) (by decide)
  have a2 := fun h => add_c [(1, [1048578])] [(1048578, 1)] 2097153 1048578 h (by decide) (by decide) (by decide) (by decide) (by decide) (by decide) (by decide) (by decide) (by simp) (by decide) (by decide)
  have p1 := fun h => pnew_c 64 64 h (by decide) (by decide)
  have p2 := fun h => pset_c [(1, rootB 64 64)] 1048578 ⟨10, 20, 9, 9, false, 0⟩ h (by decide) (by decide) (by decide) (by decide) (by decide) (by decide) (by decide) (by decide) (by decide) (by decide) (by decide)
  have p3 := fun h => pset_c [(1, rootB 64 64), (1048578, ⟨10, 20, 9, 9, false, 0⟩)] 2097153 ⟨3, 4, 5, 5, false, 0⟩ h (by decide) (by decide) (by decide) (by decide) (by decide) (by decide) (by decide) (by decide) (by decide) (by decide) (by decide)
  have c1 := fun h => change_c [] 1 2097153 true h (by decide) (by decide) (by decide) (by simp) (by decide)
  rw [show putF ([] : SVT) 1 (ofS [] 1 ++ [1048578]) = [(1, [1048578])] by decide, show putF ([] : UP) 1048578 1 = [(1048578, 1)] by decide] at a1
  rw [show putF ([(1, [1048578])] : SVT) 1048578 (ofS [(1, [1048578])] 1048578 ++ [2097153]) = [(1, [1048578]), (1048578, [2097153])] by decide, show putF ([(1048578, 1)] : UP) 2097153 1048578 = awUp by decide] at a2
  rw [show putF ([(1, rootB 64 64)] : PT) 1048578 ⟨10, 20, 9, 9, false, 0⟩ = [(1, rootB 64 64), (1048578, ⟨10, 20, 9, 9, false, 0⟩)] by decide] at p2
  rw [show putF ([(1, rootB 64 64), (1048578, ⟨10, 20, 9, 9, false, 0⟩)] : PT) 2097153 ⟨3, 4, 5, 5, false, 0⟩ = awPt by decide] at p3
  have hsr : srt [2097153] = [2097153] := (srt_eq (List.Perm.refl _) (by simp)).symm
  rw [show chF [] 1 2097153 true = ([(1, [2097153])], 0) by
    unfold chF
    rw [if_neg (by decide), if_neg (by decide), if_neg (by decide), show ofS (copF (gOne 1 2097153) []) 1 ++ [2097153] = [2097153] by decide, hsr]
    decide] at c1
  have r1 := fun h => rescue_c [(1, [1048578]), (1048578, [2097153])] awUp awPt [(1, [2097153])] 1 [1048578] (fun _ => [1]) h (by decide) (by decide) (fun id hid p hp => by
    have e : id = 2097153 := by simpa [ofS, lkF] using hid
    subst e
    have e2 : p = 1048578 := by
      have : lkF awUp 2097153 = some 1048578 := by decide
      rw [this] at hp
      injection hp with hp
      exact hp.symm
    subst e2
    refine ⟨by decide, awPth1, by decide, fun w hw => ?_⟩
    simp only [List.mem_cons, List.not_mem_nil, or_false] at hw
    rcases hw with rfl | rfl | rfl
    · exact ⟨_, (by decide : lkF awPt 2097153 = some ⟨3, 4, 5, 5, false, 0⟩)⟩
    · exact ⟨_, (by decide : lkF awPt 1048578 = some ⟨10, 20, 9, 9, false, 0⟩)⟩
    · exact ⟨_, (by decide : lkF awPt 1 = some (rootB 64 64))⟩) (fun w b hb => by
    have := lkF_some hb
    simp only [awPt, List.mem_cons, List.not_mem_nil, or_false, Prod.mk.injEq] at this
    rcases this with ⟨_, rfl⟩ | ⟨_, rfl⟩ | ⟨_, rfl⟩ <;> decide)
  rw [show resF awUp awPt [1048578] (ofS [(1, [2097153])] 1) (fun _ => [1]) (ofS [(1, [2097153])] 1) = [⟨2097153, 1, 13, 24, true⟩] by decide] at r1
  unfold encT encP encS at *
  unfold vBox at p2 p3
  dsimp only at p2 p3
  generalize ([(1, [1048578]), (1048578, [2097153])] : SVT) = k2 at *
  generalize ([(1, [1048578])] : SVT) = k1 at *
  generalize ([(1048578, 1)] : UP) = u1 at *
  generalize awUp = u2 at *
  generalize ([(1, rootB 64 64), (1048578, ⟨10, 20, 9, 9, false, 0⟩)] : PT) = q2 at *
  generalize ([(1, rootB 64 64)] : PT) = q1 at *
  generalize awPt = q3 at *
  generalize ([(1, [2097153])] : SVT) = s1 at *
  refine ACalls.intro Try.func8 rfl Try.ntmps8 Try.results8 (Nat.le_of_ble_eq_true rfl) ?_
  (repeat' (first | (refine iS ?_; refine iMu ?_; refine S.mapU ?_) | refine svz ⟨fun b hq => ?_⟩ | refine sv1 ?_ | refine svs ⟨?_⟩ | refine svu ⟨fun u => ?_⟩ | (refine svg (fun hg => ?_) (fun hg => ?_) <;> try (exfalso; first | omega | contradiction)) | (refine svc (fun hc => ?_) (fun hc => ?_) <;> try (exfalso; first | omega | contradiction)) | refine sv2 ?_ | refine svh (fun hb => ?_) (fun hb => ?_) | refine svb (fun b => ?_) | refine sva ?_ | refine sv3 ?_))
  refine S.call ?_; refine (n1 _).mono ?_; rintro r h' ⟨rfl, hh⟩; subst hh
  (repeat' (first | (refine iS ?_; refine iMu ?_; refine S.mapU ?_) | refine svz ⟨fun b hq => ?_⟩ | refine sv1 ?_ | refine svs ⟨?_⟩ | refine svu ⟨fun u => ?_⟩ | (refine svg (fun hg => ?_) (fun hg => ?_) <;> try (exfalso; first | omega | contradiction)) | (refine svc (fun hc => ?_) (fun hc => ?_) <;> try (exfalso; first | omega | contradiction)) | refine sv2 ?_ | refine svh (fun hb => ?_) (fun hb => ?_) | refine svb (fun b => ?_) | refine sva ?_ | refine sv3 ?_))
  refine S.call ?_; refine (a1 _).mono ?_; rintro r h' ⟨rfl, hh⟩; subst hh
  (repeat' (first | (refine iS ?_; refine iMu ?_; refine S.mapU ?_) | refine svz ⟨fun b hq => ?_⟩ | refine sv1 ?_ | refine svs ⟨?_⟩ | refine svu ⟨fun u => ?_⟩ | (refine svg (fun hg => ?_) (fun hg => ?_) <;> try (exfalso; first | omega | contradiction)) | (refine svc (fun hc => ?_) (fun hc => ?_) <;> try (exfalso; first | omega | contradiction)) | refine sv2 ?_ | refine svh (fun hb => ?_) (fun hb => ?_) | refine svb (fun b => ?_) | refine sva ?_ | refine sv3 ?_))
  refine S.call ?_; refine (a2 _).mono ?_; rintro r h' ⟨rfl, hh⟩; subst hh
  (repeat' (first | (refine iS ?_; refine iMu ?_; refine S.mapU ?_) | refine svz ⟨fun b hq => ?_⟩ | refine sv1 ?_ | refine svs ⟨?_⟩ | refine svu ⟨fun u => ?_⟩ | (refine svg (fun hg => ?_) (fun hg => ?_) <;> try (exfalso; first | omega | contradiction)) | (refine svc (fun hc => ?_) (fun hc => ?_) <;> try (exfalso; first | omega | contradiction)) | refine sv2 ?_ | refine svh (fun hb => ?_) (fun hb => ?_) | refine svb (fun b => ?_) | refine sva ?_ | refine sv3 ?_))
  refine S.call ?_; refine (p1 _).mono ?_; rintro r h' ⟨rfl, hh⟩; subst hh
  (repeat' (first | (refine iS ?_; refine iMu ?_; refine S.mapU ?_) | refine svz ⟨fun b hq => ?_⟩ | refine sv1 ?_ | refine svs ⟨?_⟩ | refine svu ⟨fun u => ?_⟩ | (refine svg (fun hg => ?_) (fun hg => ?_) <;> try (exfalso; first | omega | contradiction)) | (refine svc (fun hc => ?_) (fun hc => ?_) <;> try (exfalso; first | omega | contradiction)) | refine sv2 ?_ | refine svh (fun hb => ?_) (fun hb => ?_) | refine svb (fun b => ?_) | refine sva ?_ | refine sv3 ?_))
  refine S.call ?_; refine (p2 _).mono ?_; rintro r h' ⟨rfl, hh⟩; subst hh
  (repeat' (first | (refine iS ?_; refine iMu ?_; refine S.mapU ?_) | refine svz ⟨fun b hq => ?_⟩ | refine sv1 ?_ | refine svs ⟨?_⟩ | refine svu ⟨fun u => ?_⟩ | (refine svg (fun hg => ?_) (fun hg => ?_) <;> try (exfalso; first | omega | contradiction)) | (refine svc (fun hc => ?_) (fun hc => ?_) <;> try (exfalso; first | omega | contradiction)) | refine sv2 ?_ | refine svh (fun hb => ?_) (fun hb => ?_) | refine svb (fun b => ?_) | refine sva ?_ | refine sv3 ?_))
  refine S.call ?_; refine (p3 _).mono ?_; rintro r h' ⟨rfl, hh⟩; subst hh
  (repeat' (first | (refine iS ?_; refine iMu ?_; refine S.mapU ?_) | refine svz ⟨fun b hq => ?_⟩ | refine sv1 ?_ | refine svs ⟨?_⟩ | refine svu ⟨fun u => ?_⟩ | (refine svg (fun hg => ?_) (fun hg => ?_) <;> try (exfalso; first | omega | contradiction)) | (refine svc (fun hc => ?_) (fun hc => ?_) <;> try (exfalso; first | omega | contradiction)) | refine sv2 ?_ | refine svh (fun hb => ?_) (fun hb => ?_) | refine svb (fun b => ?_) | refine sva ?_ | refine sv3 ?_))
  refine S.call ?_; refine (ACalls.args (by (repeat (first | exact Wk.refl _ | exact Wk.nilr _ | exact Wk.nilm | apply Wk.aggc | apply Wk.tupc | exact Wk.aggn | exact Wk.tupn)); first | done | fail) (c1 _)).mono ?_
  rintro r h' ⟨rfl, hh⟩
  subst hh
  (repeat' (first | (refine iR2 ?_; refine r2b ?_; refine R2.one ?_) | (refine iS ?_; refine iN ?_; refine S.build1r ?_) | (refine iS ?_; refine iMu ?_; refine S.mapU ?_) | refine svz ⟨fun b hq => ?_⟩ | refine sv1 ?_ | refine svs ⟨?_⟩ | refine svu ⟨fun u => ?_⟩ | (refine svg (fun hg => ?_) (fun hg => ?_) <;> try (exfalso; first | omega | contradiction)) | (refine svc (fun hc => ?_) (fun hc => ?_) <;> try (exfalso; first | omega | contradiction)) | refine sv2 ?_ | refine svh (fun hb => ?_) (fun hb => ?_) | refine svb (fun b => ?_) | refine sva ?_ | refine sv3 ?_))
  refine S.call ?_; refine (r1 _).mono ?_; rintro r h' ⟨rfl, hh⟩; subst hh
  (repeat' (first | (refine iS ?_; refine iMu ?_; refine S.mapU ?_) | refine svz ⟨fun b hq => ?_⟩ | refine sv1 ?_ | refine svs ⟨?_⟩ | refine svu ⟨fun u => ?_⟩ | (refine svg (fun hg => ?_) (fun hg => ?_) <;> try (exfalso; first | omega | contradiction)) | (refine svc (fun hc => ?_) (fun hc => ?_) <;> try (exfalso; first | omega | contradiction)) | refine sv2 ?_ | refine svh (fun hb => ?_) (fun hb => ?_) | refine svb (fun b => ?_) | refine sva ?_ | refine sv3 ?_))
  refine S.V (v := .val (.bool true)) ?_ (pur_eqlS (sh := [true, true, true, true, false]) rfl rfl (by repeat (first | exact IEqS.nil | apply IEqS.i | apply IEqS.b)) rfl (by decide))
  (repeat' (first | (refine iS ?_; refine iMu ?_; refine S.mapU ?_) | refine svz ⟨fun b hq => ?_⟩ | refine sv1 ?_ | refine svs ⟨?_⟩ | refine svu ⟨fun u => ?_⟩ | (refine svg (fun hg => ?_) (fun hg => ?_) <;> try (exfalso; first | omega | contradiction)) | (refine svc (fun hc => ?_) (fun hc => ?_) <;> try (exfalso; first | omega | contradiction)) | refine sv2 ?_ | refine svh (fun hb => ?_) (fun hb => ?_) | refine svb (fun b => ?_) | refine sva ?_ | refine sv3 ?_))
  exact fin_r (h' := _) ⟨rfl, rfl⟩
end Go.Proofs.Ytkpbbiknhhmfiaa
