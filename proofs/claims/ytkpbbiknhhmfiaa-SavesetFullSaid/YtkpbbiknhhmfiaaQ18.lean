/- SavesetFull. No condition. -/
import Derived.Test.YtkpbbiknhhmfiaaQ16
import Derived.Test.YtkpbbiknhhmfiaaVR4
namespace Go.Proofs.Ytkpbbiknhhmfiaa
open Go Go.VM
attribute [local irreducible] PurV Pur Step RL W D ACalls Then InBlock Fini
set_option linter.unusedVariables false
set_option linter.unusedSimpArgs false
set_option maxHeartbeats 20000000
def fuL : Nat → List Int
  | 0 => []
  | n + 1 => fuL n ++ [2097152 + (n : Int) + 1]
theorem fuL_len : ∀ n, (fuL n).length = n
  | 0 => rfl
  | n + 1 => by unfold fuL; rw [List.length_append, fuL_len n]; rfl
theorem fuL_mem : ∀ {n : Nat} {x : Int}, x ∈ fuL n → 2097152 < x ∧ x ≤ 2097152 + n
  | 0, x, h => by cases h
  | n + 1, x, h => by
    unfold fuL at h
    rcases List.mem_append.1 h with h | h
    · have := fuL_mem h; omega
    · have : x = 2097152 + (n : Int) + 1 := by simpa using h
      omega
theorem fuL_sorted : ∀ n, (fuL n).Pairwise (· ≤ ·)
  | 0 => .nil
  | n + 1 => by
    unfold fuL
    rw [List.pairwise_append]
    refine ⟨fuL_sorted n, by simp, fun a ha b hb => ?_⟩
    have h1 := fuL_mem ha
    have h2 : b = 2097152 + (n : Int) + 1 := by simpa using hb
    omega
theorem sch_2 {x : Int} (h : 2097152 < x ∧ x ≤ 2097152 + 1000) : schF 1 x = 0 := by
  have hv := cli_v (id := x) (by omega)
  rw [show x / 1048576 = 2 by omega, if_neg (by omega)] at hv
  have hi : icF x = 0 := by unfold icF; rw [if_neg (by omega), hv]; rfl
  rw [sch_v (by omega), hi, if_neg (show ¬ (0 : Int) ≠ 0 by decide), if_neg (by omega), show mineF 1 x = false by unfold mineF; rw [hv]; rfl]
  rfl
theorem fuL_ch (n : Nat) (h : n < 64) : chF (stS (fuL n)) 1 (2097152 + (n : Int) + 1) true = (stS (fuL (n + 1)), 0) := by
  refine ch_stS (fun hm => ?_) (sch_2 (by omega)) (by rw [fuL_len]; exact h) ?_
  · have := fuL_mem hm; omega
  · exact (srt_eq (List.Perm.refl _) (fuL_sorted (n + 1))).symm
theorem fu_e : (chF (stS (fuL 64)) 1 3145729 true).2 = 5 := by decide +kernel
theorem fu_f : (chF (stS (fuL 64)) 1 2097157 true).2 = 0 := by decide +kernel
theorem fu_g : (chF (stS (fuL 64)) 1 2097157 false).2 = 0 := by decide +kernel
theorem fu_l : (ofS (chF (stS (fuL 64)) 1 2097157 false).1 1).length = 63 := by decide +kernel
set_option maxRecDepth 100000 in
theorem full_c : ACalls Try.prog 4 [] [] (fun r h' => r = .val (.bool (true))) := by
  have c1 := fun n h (hn : n < 64) => change_c (stS (fuL n)) 1 (2097152 + (n : Int) + 1) true h (by omega) (by omega) (stS_nodup _) (stS_lens (n := 1000000) (by rw [fuL_len]; omega)) (by have := stS_len (fuL n); omega)
  have c2 := fun h => change_c (stS (fuL 64)) 1 3145729 true h (by omega) (by omega) (stS_nodup _) (stS_lens (n := 1000000) (by rw [fuL_len]; omega)) (by have := stS_len (fuL 64); omega)
  have c3 := fun h => change_c (stS (fuL 64)) 1 2097157 true h (by omega) (by omega) (stS_nodup _) (stS_lens (n := 1000000) (by rw [fuL_len]; omega)) (by have := stS_len (fuL 64); omega)
  have c4 := fun h => change_c (stS (fuL 64)) 1 2097157 false h (by omega) (by omega) (stS_nodup _) (stS_lens (n := 1000000) (by rw [fuL_len]; omega)) (by have := stS_len (fuL 64); omega)
  rw [fu_e] at c2
  rw [fu_f] at c3
  rw [fu_g] at c4
  have o1 := fun h => ofs_c (chF (stS (fuL 64)) 1 2097157 false).1 1 h (by rw [fu_l]; omega)
  have o2 := fun h => ofs_c (stS (fuL 64)) 1 h (by rw [ofS_stS, fuL_len]; omega)
  have e1 := fu_l
  have e2 : (ofS (stS (fuL 64)) 1).length = 64 := by rw [ofS_stS, fuL_len]
  generalize (chF (stS (fuL 64)) 1 3145729 true).1 = s1 at *
  generalize (chF (stS (fuL 64)) 1 2097157 true).1 = s2 at *
  generalize (chF (stS (fuL 64)) 1 2097157 false).1 = s3 at *
  generalize ofS (stS (fuL 64)) 1 = L1 at *
  generalize ofS s3 1 = L2 at *
  unfold encS at *
  refine ACalls.intro Try.func4 rfl Try.ntmps4 Try.results4 (Nat.le_of_ble_eq_true rfl) ?_
  (repeat' (first | (refine iS ?_; refine iMu ?_; refine S.mapU ?_) | refine svz ⟨fun b hq => ?_⟩ | refine sv1 ?_ | refine svs ⟨?_⟩ | refine svu ⟨fun u => ?_⟩ | (refine svg (fun hg => ?_) (fun hg => ?_) <;> try (exfalso; first | omega | contradiction)) | (refine svc (fun hc => ?_) (fun hc => ?_) <;> try (exfalso; first | omega | contradiction)) | refine sv2 ?_ | refine svh (fun hb => ?_) (fun hb => ?_) | refine svb (fun b => ?_) | refine sva ?_ | refine sv3 ?_))
  revert b; intro b1
  refine W.loop (J := fun i : Nat => ⟨67, [(11, .val (.int .i64 ((i : Nat)))), (1, .val (.pointer (some ⟨b1, 0, none⟩))), (0, .val (.bool (false)))], .box b1 [mapV .i64 vIds (stS (fuL i))] 34 :: []⟩)
    (Φ := fun i => i ≤ 64) (μ := fun i => 64 - i) 0 (by rw [show stS (fuL 0) = [] from rfl]; exact ⟨rfl, (by repeat (first | exact LeT.nil | refine LeT.cons rfl ?_ | refine LeT.consw rfl (by (repeat (first | exact Wk.refl _ | exact Wk.nilr _ | exact Wk.nilm | apply Wk.aggc | apply Wk.tupc | exact Wk.aggn | exact Wk.tupn)); first | done | fail) ?_)), (by repeat (first | exact LeH.refl _ | exact LeH.nil _ | refine LeH.cons (by (fail_if_success (apply tkG)); (repeat (first | exact Tk.here | apply Tk.there)); first | done | fail) ?_ | refine LeH.boxw (by (fail_if_success (apply tkG)); (repeat (first | exact Tk.here | apply Tk.there)); first | done | fail) (by (repeat (first | exact Wk.refl _ | exact Wk.nilr _ | exact Wk.nilm | apply Wk.aggc | apply Wk.tupc | exact Wk.aggn | exact Wk.tupn)); first | done | fail) ?_ | refine LeH.skip ?_))⟩) (by omega) ?_
  intro i hi
  rcases Nat.lt_or_ge i 64 with hlt | hge
  · have c1 := fun h => c1 i h hlt
    rw [fuL_ch i hlt] at c1
    dsimp only at c1
    (repeat' (first | (refine iS ?_; refine iMu ?_; refine S.mapU ?_) | refine svz ⟨fun b hq => ?_⟩ | refine sv1 ?_ | refine svs ⟨?_⟩ | refine svu ⟨fun u => ?_⟩ | (refine svg (fun hg => ?_) (fun hg => ?_) <;> try (exfalso; first | omega | contradiction)) | (refine svc (fun hc => ?_) (fun hc => ?_) <;> try (exfalso; first | omega | contradiction)) | refine sv2 ?_ | refine svh (fun hb => ?_) (fun hb => ?_) | refine svb (fun b => ?_) | refine sva ?_ | refine sv3 ?_))
    refine S.call ?_; refine (c1 _).mono ?_; rintro r h' ⟨rfl, hh⟩; subst hh
    (repeat' (first | (refine iS ?_; refine iMu ?_; refine S.mapU ?_) | refine svz ⟨fun b hq => ?_⟩ | refine sv1 ?_ | refine svs ⟨?_⟩ | refine svu ⟨fun u => ?_⟩ | (refine svg (fun hg => ?_) (fun hg => ?_) <;> try (exfalso; first | omega | contradiction)) | (refine svc (fun hc => ?_) (fun hc => ?_) <;> try (exfalso; first | omega | contradiction)) | refine sv2 ?_ | refine svh (fun hb => ?_) (fun hb => ?_) | refine svb (fun b => ?_) | refine sva ?_ | refine sv3 ?_))
    exact ⟨i + 1, hlt, ⟨rfl, (by repeat (first | exact LeT.nil | refine LeT.cons rfl ?_ | refine LeT.consw rfl (by (repeat (first | exact Wk.refl _ | exact Wk.nilr _ | exact Wk.nilm | apply Wk.aggc | apply Wk.tupc | exact Wk.aggn | exact Wk.tupn)); first | done | fail) ?_)), (by repeat (first | exact LeH.refl _ | exact LeH.nil _ | refine LeH.cons (by (fail_if_success (apply tkG)); (repeat (first | exact Tk.here | apply Tk.there)); first | done | fail) ?_ | refine LeH.boxw (by (fail_if_success (apply tkG)); (repeat (first | exact Tk.here | apply Tk.there)); first | done | fail) (by (repeat (first | exact Wk.refl _ | exact Wk.nilr _ | exact Wk.nilm | apply Wk.aggc | apply Wk.tupc | exact Wk.aggn | exact Wk.tupn)); first | done | fail) ?_ | refine LeH.skip ?_))⟩, by omega⟩
  · have e : i = 64 := by omega
    subst e
    clear c1
    generalize stS (fuL 64) = s0 at *
    (repeat' (first | (refine iS ?_; refine iMu ?_; refine S.mapU ?_) | refine svz ⟨fun b hq => ?_⟩ | refine sv1 ?_ | refine svs ⟨?_⟩ | refine svu ⟨fun u => ?_⟩ | (refine svg (fun hg => ?_) (fun hg => ?_) <;> try (exfalso; first | omega | contradiction)) | (refine svc (fun hc => ?_) (fun hc => ?_) <;> try (exfalso; first | omega | contradiction)) | refine sv2 ?_ | refine svh (fun hb => ?_) (fun hb => ?_) | refine svb (fun b => ?_) | refine sva ?_ | refine sv3 ?_))
    refine S.call ?_; refine (c2 _).mono ?_; rintro r h' ⟨rfl, hh⟩; subst hh
    (repeat' (first | (refine iS ?_; refine iMu ?_; refine S.mapU ?_) | refine svz ⟨fun b hq => ?_⟩ | refine sv1 ?_ | refine svs ⟨?_⟩ | refine svu ⟨fun u => ?_⟩ | (refine svg (fun hg => ?_) (fun hg => ?_) <;> try (exfalso; first | omega | contradiction)) | (refine svc (fun hc => ?_) (fun hc => ?_) <;> try (exfalso; first | omega | contradiction)) | refine sv2 ?_ | refine svh (fun hb => ?_) (fun hb => ?_) | refine svb (fun b => ?_) | refine sva ?_ | refine sv3 ?_))
    refine S.call ?_; refine (c3 _).mono ?_; rintro r h' ⟨rfl, hh⟩; subst hh
    (repeat' (first | (refine iS ?_; refine iMu ?_; refine S.mapU ?_) | refine svz ⟨fun b hq => ?_⟩ | refine sv1 ?_ | refine svs ⟨?_⟩ | refine svu ⟨fun u => ?_⟩ | (refine svg (fun hg => ?_) (fun hg => ?_) <;> try (exfalso; first | omega | contradiction)) | (refine svc (fun hc => ?_) (fun hc => ?_) <;> try (exfalso; first | omega | contradiction)) | refine sv2 ?_ | refine svh (fun hb => ?_) (fun hb => ?_) | refine svb (fun b => ?_) | refine sva ?_ | refine sv3 ?_))
    refine S.call ?_; refine (c4 _).mono ?_; rintro r h' ⟨rfl, hh⟩; subst hh
    (repeat' (first | (refine iS ?_; refine iMu ?_; refine S.mapU ?_) | refine svz ⟨fun b hq => ?_⟩ | refine sv1 ?_ | refine svs ⟨?_⟩ | refine svu ⟨fun u => ?_⟩ | (refine svg (fun hg => ?_) (fun hg => ?_) <;> try (exfalso; first | omega | contradiction)) | (refine svc (fun hc => ?_) (fun hc => ?_) <;> try (exfalso; first | omega | contradiction)) | refine sv2 ?_ | refine svh (fun hb => ?_) (fun hb => ?_) | refine svb (fun b => ?_) | refine sva ?_ | refine sv3 ?_))
    refine S.call ?_; refine (o1 _).mono ?_; rintro r h' ⟨rfl, hh⟩; subst hh
    (repeat' (first | (refine iS ?_; refine iMu ?_; refine S.mapU ?_) | refine svz ⟨fun b hq => ?_⟩ | refine sv1 ?_ | refine svs ⟨?_⟩ | refine svu ⟨fun u => ?_⟩ | (refine svg (fun hg => ?_) (fun hg => ?_) <;> try (exfalso; first | omega | contradiction)) | (refine svc (fun hc => ?_) (fun hc => ?_) <;> try (exfalso; first | omega | contradiction)) | refine sv2 ?_ | refine svh (fun hb => ?_) (fun hb => ?_) | refine svb (fun b => ?_) | refine sva ?_ | refine sv3 ?_))
    refine S.call ?_; refine (o2 _).mono ?_; rintro r h' ⟨rfl, hh⟩; subst hh
    (repeat' (first | (refine iS ?_; refine iMu ?_; refine S.mapU ?_) | refine svz ⟨fun b hq => ?_⟩ | refine sv1 ?_ | refine svs ⟨?_⟩ | refine svu ⟨fun u => ?_⟩ | (refine svg (fun hg => ?_) (fun hg => ?_) <;> try (exfalso; first | omega | contradiction)) | (refine svc (fun hc => ?_) (fun hc => ?_) <;> try (exfalso; first | omega | contradiction)) | refine sv2 ?_ | refine svh (fun hb => ?_) (fun hb => ?_) | refine svb (fun b => ?_) | refine sva ?_ | refine sv3 ?_))
    refine S.call ?_; refine (awake_c _).mono ?_; rintro r h' ⟨rfl, hh⟩; subst hh
    (repeat' (first | (refine iS ?_; refine iMu ?_; refine S.mapU ?_) | refine svz ⟨fun b hq => ?_⟩ | refine sv1 ?_ | refine svs ⟨?_⟩ | refine svu ⟨fun u => ?_⟩ | (refine svg (fun hg => ?_) (fun hg => ?_) <;> try (exfalso; first | omega | contradiction)) | (refine svc (fun hc => ?_) (fun hc => ?_) <;> try (exfalso; first | omega | contradiction)) | refine sv2 ?_ | refine svh (fun hb => ?_) (fun hb => ?_) | refine svb (fun b => ?_) | refine sva ?_ | refine sv3 ?_))
    exact fin_r (h' := _) rfl
theorem full_row : ∀ l, FitAll maxLen ([] : List Sh) l → ACalls Try.prog 4 l [] (fun r h' => r = .val (.bool true)) := by
  rintro l rfl
  exact full_c
end Go.Proofs.Ytkpbbiknhhmfiaa
