/- The reference's Of. No condition. -/
import Derived.Test.YtdknjjgmmmmfjaaE21
import Derived.Test.YtdknjjgmmmmfjaaVM34
namespace Go.Proofs.Ytdknjjgmmmmfjaa
open Go Go.VM
attribute [local irreducible] PurV Pur Step RL W D ACalls Then InBlock Fini
set_option linter.unusedVariables false
set_option linter.unusedSimpArgs false
set_option maxHeartbeats 20000000
set_option maxRecDepth 100000 in
theorem rof_size (w g : Int) (s : ByteArray) (h : Heap) (hn : (w < 1 ∨ 128 < w) ∨ (g < 1 ∨ 128 < g)) : ACalls Try.prog 23 [.val (.int .i64 (w)), .val (.int .i64 (g)), .val (.string s)] h (fun r h' => r = .tup [.ro 4 [], .val (.int .i64 (17))] ∧ h' = h) := by
  refine ACalls.wk (Q := fun v h' => v = .tup [.val (.slice none 0 0), .val (.int .i64 (17))] ∧ h' = h) ?_ (by rintro v h' ⟨rfl, rfl⟩; exact ⟨_, (by (repeat (first | exact Wk.refl _ | exact Wk.nilr _ | exact Wk.nilm | apply Wk.aggc | apply Wk.tupc | exact Wk.aggn | exact Wk.tupn)); first | done | fail), rfl, rfl⟩)
  refine ACalls.intro Try.func23 rfl Try.ntmps23 Try.results23 (Nat.le_of_ble_eq_true rfl) ?_
  (repeat' (first | (refine iS ?_; refine iMu ?_; refine S.mapU ?_) | refine svz ⟨fun b hq => ?_⟩ | refine sv1 ?_ | refine svs ⟨?_⟩ | refine svu ⟨fun u => ?_⟩ | (refine svg (fun hg => ?_) (fun hg => ?_) <;> try (exfalso; first | omega | contradiction)) | (refine svc (fun hc => ?_) (fun hc => ?_) <;> try (exfalso; first | omega | contradiction)) | refine sv2 ?_ | refine svh (fun hb => ?_) (fun hb => ?_) | refine svb (fun b => ?_) | refine sva ?_ | refine sv3 ?_))
  all_goals first | exact fin_r (h' := h) ⟨rfl, rfl⟩ | (exfalso; omega)
set_option maxRecDepth 100000 in
theorem rof_short (w g : Int) (s : ByteArray) (h : Heap) (hw : 1 ≤ w ∧ w ≤ 128) (hg : 1 ≤ g ∧ g ≤ 128) (hb : 0 ≤ (w + 7) / 8 * g ∧ (w + 7) / 8 * g ≤ 100000) (hs : s.size ≤ 1000000000) (hl : (s.size : Int) < (w + 7) / 8 * g) : ACalls Try.prog 23 [.val (.int .i64 (w)), .val (.int .i64 (g)), .val (.string s)] h (fun r h' => r = .tup [.ro 4 [], .val (.int .i64 (3))] ∧ h' = h) := by
  refine ACalls.wk (Q := fun v h' => v = .tup [.val (.slice none 0 0), .val (.int .i64 (3))] ∧ h' = h) ?_ (by rintro v h' ⟨rfl, rfl⟩; exact ⟨_, (by (repeat (first | exact Wk.refl _ | exact Wk.nilr _ | exact Wk.nilm | apply Wk.aggc | apply Wk.tupc | exact Wk.aggn | exact Wk.tupn)); first | done | fail), rfl, rfl⟩)
  refine ACalls.intro Try.func23 rfl Try.ntmps23 Try.results23 (Nat.le_of_ble_eq_true rfl) ?_
  (repeat' (first | (refine iS ?_; refine iMu ?_; refine S.mapU ?_) | refine svz ⟨fun b hq => ?_⟩ | refine sv1 ?_ | refine svs ⟨?_⟩ | refine svu ⟨fun u => ?_⟩ | (refine svg (fun hg => ?_) (fun hg => ?_) <;> try (exfalso; first | omega | contradiction)) | (refine svc (fun hc => ?_) (fun hc => ?_) <;> try (exfalso; first | omega | contradiction)) | refine sv2 ?_ | refine svh (fun hb => ?_) (fun hb => ?_) | refine svb (fun b => ?_) | refine sva ?_ | refine sv3 ?_))
  exact fin_r (h' := h) ⟨rfl, rfl⟩
set_option maxRecDepth 100000 in
theorem rof_long (w g : Int) (s : ByteArray) (h : Heap) (hw : 1 ≤ w ∧ w ≤ 128) (hg : 1 ≤ g ∧ g ≤ 128) (hb : 0 ≤ (w + 7) / 8 * g ∧ (w + 7) / 8 * g ≤ 100000) (hs : s.size ≤ 1000000000) (hl : (w + 7) / 8 * g < (s.size : Int)) : ACalls Try.prog 23 [.val (.int .i64 (w)), .val (.int .i64 (g)), .val (.string s)] h (fun r h' => r = .tup [.ro 4 [], .val (.int .i64 (4))] ∧ h' = h) := by
  refine ACalls.wk (Q := fun v h' => v = .tup [.val (.slice none 0 0), .val (.int .i64 (4))] ∧ h' = h) ?_ (by rintro v h' ⟨rfl, rfl⟩; exact ⟨_, (by (repeat (first | exact Wk.refl _ | exact Wk.nilr _ | exact Wk.nilm | apply Wk.aggc | apply Wk.tupc | exact Wk.aggn | exact Wk.tupn)); first | done | fail), rfl, rfl⟩)
  refine ACalls.intro Try.func23 rfl Try.ntmps23 Try.results23 (Nat.le_of_ble_eq_true rfl) ?_
  (repeat' (first | (refine iS ?_; refine iMu ?_; refine S.mapU ?_) | refine svz ⟨fun b hq => ?_⟩ | refine sv1 ?_ | refine svs ⟨?_⟩ | refine svu ⟨fun u => ?_⟩ | (refine svg (fun hg => ?_) (fun hg => ?_) <;> try (exfalso; first | omega | contradiction)) | (refine svc (fun hc => ?_) (fun hc => ?_) <;> try (exfalso; first | omega | contradiction)) | refine sv2 ?_ | refine svh (fun hb => ?_) (fun hb => ?_) | refine svb (fun b => ?_) | refine sva ?_ | refine sv3 ?_))
  exact fin_r (h' := h) ⟨rfl, rfl⟩
set_option maxRecDepth 100000 in
theorem rof_m (w : Int) (G st : Nat) (s : ByteArray) (h : Heap) (hw : 1 ≤ w ∧ w ≤ 128) (hg : 1 ≤ G ∧ G ≤ 128) (hst : (w + 7) / 8 = (st : Nat)) (hl : s.size = st * G) (hs : s.size ≤ 3000) :
    ACalls Try.prog 23 [.val (.int .i64 (w)), .val (.int .i64 ((G : Nat))), .val (.string s)] h (fun r h' => ((∀ p ∈ onesP s st (8 * s.size), (p.1 : Int) < w) ∧ ∃ v, r = .tup [.val v, .val (.int .i64 (0))] ∧ h' = .own v 4 (((onesP s st (8 * s.size)).map one1).map RC.enc) 43 :: h) ∨ ((∃ p ∈ onesP s st (8 * s.size), w ≤ (p.1 : Int)) ∧ r = .tup [.val (.slice none 0 0), .val (.int .i64 (2))] ∧ h' = h)) := by
  have hst1 : 1 ≤ st ∧ st ≤ 16 := by omega
  have hmul : (w + 7) / 8 * (G : Int) = (s.size : Int) := by rw [hst, hl]; push_cast; rfl
  refine ACalls.intro Try.func23 rfl Try.ntmps23 Try.results23 (Nat.le_of_ble_eq_true rfl) ?_
  (repeat' (first | (refine iS ?_; refine iMu ?_; refine S.mapU ?_) | refine svz ⟨fun b hq => ?_⟩ | refine sv1 ?_ | refine svs ⟨?_⟩ | refine svu ⟨fun u => ?_⟩ | (refine svg (fun hg => ?_) (fun hg => ?_) <;> try (exfalso; first | omega | contradiction)) | (refine svc (fun hc => ?_) (fun hc => ?_) <;> try (exfalso; first | omega | contradiction)) | refine sv2 ?_ | refine svh (fun hb => ?_) (fun hb => ?_) | refine svb (fun b => ?_) | refine sva ?_ | refine sv3 ?_))
  rw [hst]
  refine W.nil_ 4 43 ?_
  clear hmul
  refine W.loop (J := fun z : Nat × Value => ⟨83, [(10, .val (.int .i64 ((z.1 : Nat)))), (9, .val z.2), (8, .val (.int .i64 (st))), (0, .val (.int .i64 (w))), (1, .val (.int .i64 ((G : Nat)))), (2, .val (.string s)), (6, .val (.slice none 0 0)), (7, .val (.int .i64 (0)))], .own z.2 4 (((onesP s st (8 * st * z.1)).map one1).map RC.enc) 43 :: h⟩)
    (Φ := fun z => z.1 ≤ G ∧ ∀ p ∈ onesP s st (8 * st * z.1), (p.1 : Int) < w) (μ := fun z => G - z.1) (0, .slice none 0 0) (by rw [show onesP s st (8 * st * 0) = [] from rfl]; exact lee) ⟨Nat.zero_le _, fun p hp => by rw [show onesP s st (8 * st * 0) = [] from rfl] at hp; cases hp⟩ ?_
  rintro ⟨y, v⟩ ⟨hy, hal⟩
  dsimp only at hy hal ⊢
  rcases Nat.lt_or_ge y G with hyl | hyg
  · have ey : 8 * st * (y + 1) = 8 * st * y + 8 * st := by rw [Nat.mul_add, Nat.mul_one]
    have hyst : y * st + st ≤ 3000 := by
      have : (y + 1) * st ≤ G * st := Nat.mul_le_mul_right _ hyl
      rw [Nat.add_mul, Nat.one_mul, Nat.mul_comm G] at this
      omega
    (repeat' (first | (refine iS ?_; refine iMu ?_; refine S.mapU ?_) | refine svz ⟨fun b hq => ?_⟩ | refine sv1 ?_ | refine svs ⟨?_⟩ | refine svu ⟨fun u => ?_⟩ | (refine svg (fun hg => ?_) (fun hg => ?_) <;> try (exfalso; first | omega | contradiction)) | (refine svc (fun hc => ?_) (fun hc => ?_) <;> try (exfalso; first | omega | contradiction)) | refine sv2 ?_ | refine svh (fun hb => ?_) (fun hb => ?_) | refine svb (fun b => ?_) | refine sva ?_ | refine sv3 ?_))
    refine W.loop (J := fun z : Nat × Value => ⟨83, [(11, .val (.int .i64 ((z.1 : Nat)))), (10, .val (.int .i64 ((y : Nat)))), (9, .val z.2), (8, .val (.int .i64 (st))), (0, .val (.int .i64 (w))), (1, .val (.int .i64 ((G : Nat)))), (2, .val (.string s)), (6, .val (.slice none 0 0)), (7, .val (.int .i64 (0)))], .own z.2 4 (((onesP s st (8 * st * y + z.1)).map one1).map RC.enc) 43 :: h⟩)
      (Φ := fun z => z.1 ≤ 8 * st ∧ ∀ p ∈ onesP s st (8 * st * y + z.1), (p.1 : Int) < w) (μ := fun z => 8 * st - z.1) (0, v) lee ⟨Nat.zero_le _, hal⟩ ?_
    clear hal
    rintro ⟨x, v⟩ ⟨hx, hal⟩
    dsimp only at hx hal ⊢
    rcases Nat.lt_or_ge x (8 * st) with hxl | hxg
    · have hi : y * st + x / 8 < s.size := by
        have : (y + 1) * st ≤ G * st := Nat.mul_le_mul_right _ hyl
        rw [Nat.add_mul, Nat.one_mul] at this
        rw [hl, Nat.mul_comm st]; omega
      obtain ⟨c, hc⟩ := byte_at hi
      have hcv := bt_at hc
      have hB := bt_lt s (y * st + x / 8)
      have hym : 0 ≤ (y : Int) * (st : Int) ∧ (y : Int) * (st : Int) ≤ 3000 := by
        have e : (y : Int) * (st : Int) = ((y * st : Nat) : Int) := by push_cast; rfl
        rw [e]; omega
      have hj : ((y : Int) * (st : Int) + (x : Int) / 8).toNat = y * st + x / 8 := by
        have e : (y : Int) * (st : Int) = ((y * st : Nat) : Int) := by push_cast; rfl
        rw [e]; omega
      have hix : s[((y : Int) * (st : Int) + (x : Int) / 8).toNat]? = some c := by rw [hj]; exact hc
      have hlt : ((y : Int) * (st : Int) + (x : Int) / 8).toNat < s.size := by rw [hj]; exact hi
      clear hj
      have eb : bitP s (8 * st * y + x) = bt s (y * st + x / 8) / 2 ^ (x % 8) % 2 := by
        unfold bitP
        rw [Nat.mul_assoc, Nat.mul_add_div (by decide), Nat.mul_add_mod, Nat.mul_comm st]
      have es := onesP_succ s st (8 * st * y + x)
      rw [Nat.add_assoc] at es
      have ept := bit_lin (y := y) hxl
      have hlen : (onesP s st (8 * st * y + x)).length ≤ 30000 := by
        have := onesP_len s st (8 * st * y + x)
        have e : 8 * st * y = 8 * (y * st) := by rw [Nat.mul_assoc, Nat.mul_comm st]
        omega
      have hmem : bitP s (8 * st * y + x) = 1 → (x, y) ∈ onesP s st (8 * s.size) := fun hb => by
        refine (ones_mem hxl).2 ⟨?_, hb⟩
        rw [Nat.mul_assoc, Nat.mul_comm st]; omega
      rw [eb, ept] at es
      rw [eb] at hmem
      rw [← hcv] at es hmem hB
      generalize hBv : c.toNat = B at *
      generalize hO : onesP s st (8 * st * y + x) = O at *
      (repeat' (first | (refine iS ?_; refine iMu ?_; refine S.mapU ?_) | refine svz ⟨fun b hq => ?_⟩ | refine sv1 ?_ | refine svs ⟨?_⟩ | refine svu ⟨fun u => ?_⟩ | (refine svg (fun hg => ?_) (fun hg => ?_) <;> try (exfalso; first | omega | contradiction)) | (refine svc (fun hc => ?_) (fun hc => ?_) <;> try (exfalso; first | omega | contradiction)) | refine sv2 ?_ | refine svh (fun hb => ?_) (fun hb => ?_) | refine svb (fun b => ?_) | refine sva ?_ | refine sv3 ?_))
      refine iS ?_
      refine step_v (v := .val (.int .u8 (B : Nat))) (hBv ▸ pur_istr rfl rfl (by omega) hix) rfl ?_
      (repeat' (first | (refine iS ?_; refine iMu ?_; refine S.mapU ?_) | refine svz ⟨fun b hq => ?_⟩ | refine sv1 ?_ | refine svs ⟨?_⟩ | refine svu ⟨fun u => ?_⟩ | (refine svg (fun hg => ?_) (fun hg => ?_) <;> try (exfalso; first | omega | contradiction)) | (refine svc (fun hc => ?_) (fun hc => ?_) <;> try (exfalso; first | omega | contradiction)) | refine sv2 ?_ | refine svh (fun hb => ?_) (fun hb => ?_) | refine svb (fun b => ?_) | refine sva ?_ | refine sv3 ?_))
      refine W.loop (J := fun k : Nat => ⟨83, [(13, .val (.int .i64 ((k : Nat)))), (12, .val (.int .u8 (((B / 2 ^ k : Nat) : Int)))), (11, .val (.int .i64 ((x : Nat)))), (10, .val (.int .i64 ((y : Nat)))), (9, .val v), (8, .val (.int .i64 (st))), (0, .val (.int .i64 (w))), (1, .val (.int .i64 ((G : Nat)))), (2, .val (.string s)), (6, .val (.slice none 0 0)), (7, .val (.int .i64 (0)))], .own v 4 ((O.map one1).map RC.enc) 43 :: h⟩)
        (Φ := fun k => k ≤ x % 8) (μ := fun k => x % 8 - k) 0 (by rw [show B / 2 ^ 0 = B by simp]; exact lee) (Nat.zero_le _) ?_
      intro k hk
      rcases Nat.lt_or_ge k (x % 8) with hkl | hkg
      · have hdl : B / 2 ^ k ≤ 255 := by have := Nat.div_le_self B (2 ^ k); omega
        have e2 : ((B / 2 ^ (k + 1) : Nat) : Int) = ((B / 2 ^ k : Nat) : Int) / 2 := by
          rw [Nat.pow_succ, ← Nat.div_div_eq_div_mul]; push_cast; rfl
        generalize B / 2 ^ k = D at *
        have e3 := wrap_quo8 (a := (D : Int)) (b := 2) (by omega) (by omega) (by omega)
        rw [← e3] at e2
        (repeat' (first | (refine iS ?_; refine iMu ?_; refine S.mapU ?_) | refine svz ⟨fun b hq => ?_⟩ | refine sv1 ?_ | refine svs ⟨?_⟩ | refine svu ⟨fun u => ?_⟩ | (refine svg (fun hg => ?_) (fun hg => ?_) <;> try (exfalso; first | omega | contradiction)) | (refine svc (fun hc => ?_) (fun hc => ?_) <;> try (exfalso; first | omega | contradiction)) | refine sv2 ?_ | refine svh (fun hb => ?_) (fun hb => ?_) | refine svb (fun b => ?_) | refine sva ?_ | refine sv3 ?_))
        exact ⟨k + 1, hkl, by rw [e2]; exact lee, by omega⟩
      · have e : k = x % 8 := by omega
        subst e
        have hdl : B / 2 ^ (x % 8) ≤ 255 := by have := Nat.div_le_self B (2 ^ (x % 8)); omega
        generalize B / 2 ^ (x % 8) = D at *
        by_cases hD : D % 2 = 1
        · rw [if_pos hD] at es
          have hmem := hmem hD
          by_cases hxw : (x : Int) < w
          · (repeat' (first | (refine iS ?_; refine iMu ?_; refine S.mapU ?_) | refine svz ⟨fun b hq => ?_⟩ | refine sv1 ?_ | refine svs ⟨?_⟩ | refine svu ⟨fun u => ?_⟩ | (refine svg (fun hg => ?_) (fun hg => ?_) <;> try (exfalso; first | omega | contradiction)) | (refine svc (fun hc => ?_) (fun hc => ?_) <;> try (exfalso; first | omega | contradiction)) | refine sv2 ?_ | refine svh (fun hb => ?_) (fun hb => ?_) | refine svb (fun b => ?_) | refine sva ?_ | refine sv3 ?_))
            refine ⟨(x + 1, u), ⟨hxl, ?_⟩, ?_, by dsimp only; omega⟩
            · dsimp only
              rw [es]
              intro p hp
              rcases List.mem_append.1 hp with q | q
              · exact hal p q
              · have e : p = (x, y) := by simpa using q
                subst e
                exact hxw
            · dsimp only
              rw [es, List.map_append, List.map_append]
              exact lee
          · (repeat' (first | (refine iS ?_; refine iMu ?_; refine S.mapU ?_) | refine svz ⟨fun b hq => ?_⟩ | refine sv1 ?_ | refine svs ⟨?_⟩ | refine svu ⟨fun u => ?_⟩ | (refine svg (fun hg => ?_) (fun hg => ?_) <;> try (exfalso; first | omega | contradiction)) | (refine svc (fun hc => ?_) (fun hc => ?_) <;> try (exfalso; first | omega | contradiction)) | refine sv2 ?_ | refine svh (fun hb => ?_) (fun hb => ?_) | refine svb (fun b => ?_) | refine sva ?_ | refine sv3 ?_))
            exact fin_r (h' := h) (.inr ⟨⟨(x, y), hmem, by dsimp only; omega⟩, rfl, rfl⟩)
        · rw [if_neg hD, List.append_nil] at es
          (repeat' (first | (refine iS ?_; refine iMu ?_; refine S.mapU ?_) | refine svz ⟨fun b hq => ?_⟩ | refine sv1 ?_ | refine svs ⟨?_⟩ | refine svu ⟨fun u => ?_⟩ | (refine svg (fun hg => ?_) (fun hg => ?_) <;> try (exfalso; first | omega | contradiction)) | (refine svc (fun hc => ?_) (fun hc => ?_) <;> try (exfalso; first | omega | contradiction)) | refine sv2 ?_ | refine svh (fun hb => ?_) (fun hb => ?_) | refine svb (fun b => ?_) | refine sva ?_ | refine sv3 ?_))
          exact ⟨(x + 1, v), ⟨hxl, by dsimp only; rw [es]; exact hal⟩, by dsimp only; rw [es]; exact lee, by dsimp only; omega⟩
    · have e : x = 8 * st := by omega
      subst e
      rw [← ey] at hal ⊢
      (repeat' (first | (refine iS ?_; refine iMu ?_; refine S.mapU ?_) | refine svz ⟨fun b hq => ?_⟩ | refine sv1 ?_ | refine svs ⟨?_⟩ | refine svu ⟨fun u => ?_⟩ | (refine svg (fun hg => ?_) (fun hg => ?_) <;> try (exfalso; first | omega | contradiction)) | (refine svc (fun hc => ?_) (fun hc => ?_) <;> try (exfalso; first | omega | contradiction)) | refine sv2 ?_ | refine svh (fun hb => ?_) (fun hb => ?_) | refine svb (fun b => ?_) | refine sva ?_ | refine sv3 ?_))
      exact ⟨(y + 1, v), ⟨hyl, hal⟩, lee, by dsimp only; omega⟩
  · have e : y = G := by omega
    subst e
    rw [show 8 * st * y = 8 * s.size by rw [hl, Nat.mul_assoc]] at hal ⊢
    (repeat' (first | (refine iS ?_; refine iMu ?_; refine S.mapU ?_) | refine svz ⟨fun b hq => ?_⟩ | refine sv1 ?_ | refine svs ⟨?_⟩ | refine svu ⟨fun u => ?_⟩ | (refine svg (fun hg => ?_) (fun hg => ?_) <;> try (exfalso; first | omega | contradiction)) | (refine svc (fun hc => ?_) (fun hc => ?_) <;> try (exfalso; first | omega | contradiction)) | refine sv2 ?_ | refine svh (fun hb => ?_) (fun hb => ?_) | refine svb (fun b => ?_) | refine sva ?_ | refine sv3 ?_))
    exact fin_r (h' := .own v 4 (((onesP s st (8 * s.size)).map one1).map RC.enc) 43 :: h) (.inl ⟨hal, v, rfl, rfl⟩)
end Go.Proofs.Ytdknjjgmmmmfjaa
