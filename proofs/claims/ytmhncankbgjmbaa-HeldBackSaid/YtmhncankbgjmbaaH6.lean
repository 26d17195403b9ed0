/- The law's own small functions: filled, is, awake. No condition. -/
import Derived.Test.YtmhncankbgjmbaaH3
import Derived.Test.YtmhncankbgjmbaaH4
import Derived.Test.YtmhncankbgjmbaaH5
namespace Go.Proofs.Ytmhncankbgjmbaa
open Go Go.VM
attribute [local irreducible] PurV Pur Step RL W D ACalls Then InBlock Fini
set_option linter.unusedVariables false
set_option linter.unusedSimpArgs false
set_option maxHeartbeats 20000000
structure OkT (t : TB) : Prop where
  nd : (t.map (·.1)).Nodup
  len : t.length ≤ 1024
  el : ∀ p ∈ t, 0 ≤ p.1 ∧ p.1 ≤ 4294967295 ∧ 1 ≤ p.2 ∧ p.2 ≤ 4 ∧ rcF p.1 ≠ 0
theorem okT_nil : OkT [] := ⟨by simp, by simp, by simp⟩
theorem OkT.kinds {t : TB} (h : OkT t) : ∀ p ∈ t, p.2 ≠ 0 := fun p hp => by have := h.el p hp; omega
theorem OkT.perm {t t' : TB} (h : OkT t) (p : t.Perm t') : OkT t' := ⟨((p.map _).nodup_iff).1 h.nd, by rw [← p.length_eq]; exact h.len, fun q hq => h.el q (p.mem_iff.2 hq)⟩
theorem OkT.new_ {t : TB} (h : OkT t) {id : Int} (hk : kindF t id = 0) : id ∉ t.map (·.1) := fun hm => by
  obtain ⟨p, hp, e⟩ := List.mem_map.1 hm
  have := lkF_nodup (i := id) (a := p.2) h.nd (by rw [← e]; exact hp)
  unfold kindF at hk
  rw [this] at hk
  exact h.kinds p hp hk
theorem OkT.kind {t : TB} (h : OkT t) {p : Int × Int} (hp : p ∈ t) : kindF t p.1 = p.2 := by
  unfold kindF; rw [lkF_nodup h.nd hp]; rfl
theorem okT_add {t : TB} (h : OkT t) {c id k : Int} (h0 : 0 ≤ id) (h1 : id ≤ 4294967295) : OkT (addF t c id k).1 := by
  unfold addF
  split; exact h
  split; exact h
  split; exact h
  split; exact h
  split; exact h
  rename_i q1 q2 q3 q4 q5
  have hnew := h.new_ (id := id) (by simpa using q3)
  have hm : mineF c id = true := by simpa using q2
  refine ⟨?_, by simp; omega, fun p hp => ?_⟩
  · rw [List.map_append, List.nodup_append]
    exact ⟨h.nd, by simp, fun x hx y hy e => by simp at hy; subst hy; exact hnew (e ▸ hx)⟩
  · rcases List.mem_append.1 hp with hp | hp
    · exact h.el p hp
    · simp at hp; subst hp
      exact ⟨h0, h1, by dsimp only; omega, by dsimp only; omega, ((mine_rc c id).1 hm).1⟩
theorem okT_drop {t : TB} (h : OkT t) (ids : List Int) : OkT (dropF t ids) := by
  have hs : (dropF t ids).Sublist t := List.filter_sublist
  exact ⟨(hs.map _).nodup h.nd, Nat.le_trans hs.length_le h.len, fun p hp => h.el p (hs.subset hp)⟩
theorem kind_perm {t t' : TB} (h : OkT t) (p : t.Perm t') (id : Int) : kindF t id = kindF t' id := by
  have h' := h.perm p
  unfold kindF
  cases e : lkF t id with
  | none =>
    have : lkF t' id = none := lkF_none.2 fun q hq => lkF_none.1 e q (p.mem_iff.2 hq)
    rw [this]
  | some a =>
    have : lkF t' id = some a := lkF_nodup h'.nd (p.mem_iff.1 (lkF_some e))
    rw [this]
theorem add_perm {t l : TB} (h : OkT t) (p : t.Perm l) (c id k : Int) : (addF t c id k).2 = (raddF l c id k).2 ∧ (addF t c id k).1.Perm (raddF l c id k).1 := by
  unfold addF raddF
  by_cases h1 : k < 1 ∨ 4 < k
  · rw [if_pos h1, if_pos h1]; exact ⟨rfl, p⟩
  rw [if_neg h1, if_neg h1]
  have hm := mine_rc c id
  cases hmi : mineF c id
  · have : rcF id = 0 ∨ rcF id ≠ c := by
      rw [hmi] at hm
      by_cases q : rcF id = 0
      · exact .inl q
      · exact .inr fun e => by simpa using hm.2 ⟨q, e⟩
    rw [if_pos rfl, if_pos this]; exact ⟨rfl, p⟩
  have := hm.1 hmi
  rw [if_neg (show ¬ (true = false) by simp), if_neg (show ¬ (rcF id = 0 ∨ rcF id ≠ c) by omega), kind_perm h p]
  by_cases h2 : kindF l id ≠ 0
  · rw [if_pos h2, if_pos h2]; exact ⟨rfl, p⟩
  rw [if_neg h2, if_neg h2, p.length_eq, show winsF t = winsF l from p.countP_eq _]
  by_cases h3 : 1024 ≤ l.length
  · rw [if_pos h3, if_pos (.inl h3)]; exact ⟨rfl, p⟩
  rw [if_neg h3]
  by_cases h4 : k = 1 ∧ 63 ≤ winsF l
  · rw [if_pos h4, if_pos (.inr h4)]; exact ⟨rfl, p⟩
  · rw [if_neg h4, if_neg (by omega)]; exact ⟨rfl, p.append_right _⟩
theorem ofF_rofA {t l : TB} (h : OkT t) (p : t.Perm l) (c : Int) : ofF t c = rofA l c 5 := by
  have key : ∀ k : Nat, srt (ofK t c (k : Int)) = srt (rofK l c k) := fun k => by
    refine srt_congr ?_
    unfold ofK rofK
    have e : (t.filter fun p => mineF c p.1 && decide (p.2 = (k : Int))) = t.filter fun p => decide (p.2 = (k : Int)) && decide (rcF p.1 = c) := by
      refine List.filter_congr fun q hq => ?_
      have hr := (h.el q hq).2.2.2.2
      have hm := mine_rc c q.1
      cases hmi : mineF c q.1
      · rw [hmi] at hm
        have : rcF q.1 ≠ c := fun e => by simpa using hm.2 ⟨hr, e⟩
        simp [this]
      · have := (hm.1 hmi).2
        simp [this]
    rw [e]
    exact (p.filter _).map _
  have k1 := key 1
  have k2 := key 2
  have k3 := key 3
  have k4 := key 4
  unfold ofF
  simp only [rofA, List.nil_append]
  rw [show ofK t c 1 = ofK t c ((1 : Nat) : Int) from rfl, show ofK t c 2 = ofK t c ((2 : Nat) : Int) from rfl, show ofK t c 3 = ofK t c ((3 : Nat) : Int) from rfl, show ofK t c 4 = ofK t c ((4 : Nat) : Int) from rfl, k1, k2, k3, k4]
  simp only [List.append_assoc]
structure AC where
  d : Bool
  c : Int
  id : Int
  k : Int
def AC.enc (a : AC) : AV := .agg [.val (.bool a.d), .val (.int .i64 a.c), .val (.int .u32 a.id), .val (.int .i64 a.k)]
def filF (l : List AC) : TB := l.foldl (fun t a => (addF t a.c a.id a.k).1) []
theorem filF_snoc (l : List AC) (a : AC) : filF (l ++ [a]) = (addF (filF l) a.c a.id a.k).1 := by simp [filF]
theorem filF_nil : filF [] = [] := rfl
theorem ok_fil (l : List AC) (h : ∀ a ∈ l, 0 ≤ a.id ∧ a.id ≤ 4294967295) : OkT (filF l) := by
  have : ∀ (l : List AC) (t : TB), OkT t → (∀ a ∈ l, 0 ≤ a.id ∧ a.id ≤ 4294967295) → OkT (l.foldl (fun t a => (addF t a.c a.id a.k).1) t) := by
    intro l
    induction l with
    | nil => exact fun t h _ => h
    | cons a l ih => exact fun t ht h => ih _ (okT_add ht (h a (.head _)).1 (h a (.head _)).2) fun b hb => h b (.tail _ hb)
  exact this l [] okT_nil h
set_option maxRecDepth 100000 in
theorem filled_c (l : List AC) (h : Heap) (hl : l.length ≤ 9223372036854775807) (hr : ∀ a ∈ l, 0 ≤ a.id ∧ a.id ≤ 4294967295) : ACalls Try.prog 12 [.ro 4 (l.map AC.enc)] h (fun r h' => (∃ x, r = .tup [x, .val (.bool (decide (l.length ≤ 200)))] ∧ (l.length ≤ 200 → x = encT (filF l)) ∧ (¬ l.length ≤ 200 → x = .agg [.val (.map none)])) ∧ h' = h) := by
  refine ACalls.intro Try.func12 rfl Try.ntmps12 Try.results12 (Nat.le_of_ble_eq_true rfl) ?_
  by_cases hb : l.length ≤ 200
  case neg =>
    (repeat' (first | (refine iS ?_; refine iMu ?_; refine S.mapU ?_) | (refine iS ?_; refine iZ ?_; refine S.nilq (fun b hq => ?_)) | refine sv1 ?_ | (refine iS ?_; first | (refine iT ?_; first | refine S.store_one ?_ | refine S.store_whole ?_ | refine S.store_elem ?_ | refine S.store_field ?_) | (refine iY ?_; refine S.copy ?_) | (refine iMd ?_; refine S.mapD ?_) | (refine iC ?_; first | refine S.append1 (fun u => ?_) | refine S.append (fun u => ?_) | refine S.append_nil (fun u => ?_)) | (refine iN ?_; first | refine S.build1 (fun u => ?_) | refine S.build2 (fun u => ?_) | refine S.build3 (fun u => ?_) | refine S.build0 (fun u => ?_)) | (refine iK ?_; refine S.make (fun u => ?_))) | (refine svg (fun hg => ?_) (fun hg => ?_) <;> try (exfalso; first | omega | contradiction)) | (refine svc (fun hc => ?_) (fun hc => ?_) <;> try (exfalso; first | omega | contradiction)) | refine sv2 ?_ | refine svh (fun hb => ?_) (fun hb => ?_) | refine svb (fun b => ?_) | refine sva ?_ | refine sv3 ?_))
    refine fin_r (h' := h) ⟨⟨.agg [.val (.map none)], ?_, fun h => absurd h hb, fun _ => rfl⟩, rfl⟩
    rw [decide_eq_false hb]; rfl
  (repeat' (first | (refine iS ?_; refine iMu ?_; refine S.mapU ?_) | (refine iS ?_; refine iZ ?_; refine S.nilq (fun b hq => ?_)) | refine sv1 ?_ | (refine iS ?_; first | (refine iT ?_; first | refine S.store_one ?_ | refine S.store_whole ?_ | refine S.store_elem ?_ | refine S.store_field ?_) | (refine iY ?_; refine S.copy ?_) | (refine iMd ?_; refine S.mapD ?_) | (refine iC ?_; first | refine S.append1 (fun u => ?_) | refine S.append (fun u => ?_) | refine S.append_nil (fun u => ?_)) | (refine iN ?_; first | refine S.build1 (fun u => ?_) | refine S.build2 (fun u => ?_) | refine S.build3 (fun u => ?_) | refine S.build0 (fun u => ?_)) | (refine iK ?_; refine S.make (fun u => ?_))) | (refine svg (fun hg => ?_) (fun hg => ?_) <;> try (exfalso; first | omega | contradiction)) | (refine svc (fun hc => ?_) (fun hc => ?_) <;> try (exfalso; first | omega | contradiction)) | refine sv2 ?_ | refine svh (fun hb => ?_) (fun hb => ?_) | refine svb (fun b => ?_) | refine sva ?_ | refine sv3 ?_))
  rename_i b2
  revert b; intro b4
  refine W.loop (J := fun k : Nat => ⟨30, [(13, .val (.int .i64 (k : Int))), (12, .val (.int .i64 (l.length : Nat))), (11, .ro 4 (l.map AC.enc)), (4, .val (.pointer (some ⟨b4, 0, none⟩))), (2, .val (.pointer (some ⟨b2, 0, none⟩)))], .box b4 (encT (filF (l.take k))).cells 24 :: .box b2 [.val (.map none)] 24 :: h⟩)
    (Φ := fun k => k ≤ l.length) (μ := fun k => l.length - k) 0 (by rw [List.take_zero]; exact ⟨rfl, (by repeat (first | exact LeT.nil | refine LeT.cons rfl ?_ | refine LeT.consw rfl (by (repeat (first | exact Wk.refl _ | exact Wk.nilr _ | exact Wk.nilm | apply Wk.aggc | apply Wk.tupc | exact Wk.aggn | exact Wk.tupn)); first | done | fail) ?_)), (by repeat (first | exact LeH.refl _ | exact LeH.nil _ | refine LeH.cons (by (fail_if_success (apply tkG)); (repeat (first | exact Tk.here | apply Tk.there)); first | done | fail) ?_ | refine LeH.boxw (by (fail_if_success (apply tkG)); (repeat (first | exact Tk.here | apply Tk.there)); first | done | fail) (by (repeat (first | exact Wk.refl _ | exact Wk.nilr _ | exact Wk.nilm | apply Wk.aggc | apply Wk.tupc | exact Wk.aggn | exact Wk.tupn)); first | done | fail) ?_ | refine LeH.skip ?_))⟩) (Nat.zero_le _) ?_
  intro k hk
  rcases Nat.lt_or_ge k l.length with hlt | hge
  · have hx : l[k]? = some l[k] := List.getElem?_eq_getElem hlt
    have e : filF (l.take (k + 1)) = (addF (filF (l.take k)) l[k].c l[k].id l[k].k).1 := by rw [List.take_add_one, hx]; exact filF_snoc ..
    have hok := ok_fil (l.take k) fun a ha => hr a (List.mem_of_mem_take ha)
    have hid := hr l[k] (List.getElem_mem hlt)
    have hlen := hok.len
    (repeat' (first | (refine iS ?_; refine iMu ?_; refine S.mapU ?_) | (refine iS ?_; refine iZ ?_; refine S.nilq (fun b hq => ?_)) | refine sv1 ?_ | (refine iS ?_; first | (refine iT ?_; first | refine S.store_one ?_ | refine S.store_whole ?_ | refine S.store_elem ?_ | refine S.store_field ?_) | (refine iY ?_; refine S.copy ?_) | (refine iMd ?_; refine S.mapD ?_) | (refine iC ?_; first | refine S.append1 (fun u => ?_) | refine S.append (fun u => ?_) | refine S.append_nil (fun u => ?_)) | (refine iN ?_; first | refine S.build1 (fun u => ?_) | refine S.build2 (fun u => ?_) | refine S.build3 (fun u => ?_) | refine S.build0 (fun u => ?_)) | (refine iK ?_; refine S.make (fun u => ?_))) | (refine svg (fun hg => ?_) (fun hg => ?_) <;> try (exfalso; first | omega | contradiction)) | (refine svc (fun hc => ?_) (fun hc => ?_) <;> try (exfalso; first | omega | contradiction)) | refine sv2 ?_ | refine svh (fun hb => ?_) (fun hb => ?_) | refine svb (fun b => ?_) | refine sva ?_ | refine sv3 ?_))
    refine S.call ?_
    refine (add_c (filF (l.take k)) l[k].c l[k].id l[k].k _ hok.nd (by omega) hid.1 hid.2 hok.kinds).mono ?_
    rw [← e]
    rintro r h' ⟨rfl, hh⟩
    subst hh
    (repeat' (first | (refine iS ?_; refine iMu ?_; refine S.mapU ?_) | (refine iS ?_; refine iZ ?_; refine S.nilq (fun b hq => ?_)) | refine sv1 ?_ | (refine iS ?_; first | (refine iT ?_; first | refine S.store_one ?_ | refine S.store_whole ?_ | refine S.store_elem ?_ | refine S.store_field ?_) | (refine iY ?_; refine S.copy ?_) | (refine iMd ?_; refine S.mapD ?_) | (refine iC ?_; first | refine S.append1 (fun u => ?_) | refine S.append (fun u => ?_) | refine S.append_nil (fun u => ?_)) | (refine iN ?_; first | refine S.build1 (fun u => ?_) | refine S.build2 (fun u => ?_) | refine S.build3 (fun u => ?_) | refine S.build0 (fun u => ?_)) | (refine iK ?_; refine S.make (fun u => ?_))) | (refine svg (fun hg => ?_) (fun hg => ?_) <;> try (exfalso; first | omega | contradiction)) | (refine svc (fun hc => ?_) (fun hc => ?_) <;> try (exfalso; first | omega | contradiction)) | refine sv2 ?_ | refine svh (fun hb => ?_) (fun hb => ?_) | refine svb (fun b => ?_) | refine sva ?_ | refine sv3 ?_))
    exact ⟨k + 1, hlt, ⟨rfl, (by repeat (first | exact LeT.nil | refine LeT.cons rfl ?_ | refine LeT.consw rfl (by (repeat (first | exact Wk.refl _ | exact Wk.nilr _ | exact Wk.nilm | apply Wk.aggc | apply Wk.tupc | exact Wk.aggn | exact Wk.tupn)); first | done | fail) ?_)), (by repeat (first | exact LeH.refl _ | exact LeH.nil _ | refine LeH.cons (by (fail_if_success (apply tkG)); (repeat (first | exact Tk.here | apply Tk.there)); first | done | fail) ?_ | refine LeH.boxw (by (fail_if_success (apply tkG)); (repeat (first | exact Tk.here | apply Tk.there)); first | done | fail) (by (repeat (first | exact Wk.refl _ | exact Wk.nilr _ | exact Wk.nilm | apply Wk.aggc | apply Wk.tupc | exact Wk.aggn | exact Wk.tupn)); first | done | fail) ?_ | refine LeH.skip ?_))⟩, by omega⟩
  · have e : l.take k = l := List.take_of_length_le hge
    rw [e]
    (repeat' (first | (refine iS ?_; refine iMu ?_; refine S.mapU ?_) | (refine iS ?_; refine iZ ?_; refine S.nilq (fun b hq => ?_)) | refine sv1 ?_ | (refine iS ?_; first | (refine iT ?_; first | refine S.store_one ?_ | refine S.store_whole ?_ | refine S.store_elem ?_ | refine S.store_field ?_) | (refine iY ?_; refine S.copy ?_) | (refine iMd ?_; refine S.mapD ?_) | (refine iC ?_; first | refine S.append1 (fun u => ?_) | refine S.append (fun u => ?_) | refine S.append_nil (fun u => ?_)) | (refine iN ?_; first | refine S.build1 (fun u => ?_) | refine S.build2 (fun u => ?_) | refine S.build3 (fun u => ?_) | refine S.build0 (fun u => ?_)) | (refine iK ?_; refine S.make (fun u => ?_))) | (refine svg (fun hg => ?_) (fun hg => ?_) <;> try (exfalso; first | omega | contradiction)) | (refine svc (fun hc => ?_) (fun hc => ?_) <;> try (exfalso; first | omega | contradiction)) | refine sv2 ?_ | refine svh (fun hb => ?_) (fun hb => ?_) | refine svb (fun b => ?_) | refine sva ?_ | refine sv3 ?_))
    refine fin_r (h' := h) ⟨⟨encT (filF l), ?_, fun _ => rfl, fun h => absurd hb h⟩, rfl⟩
    rw [decide_eq_true hb]; rfl
set_option maxRecDepth 100000 in
theorem is_c (t l : TB) (h : Heap) (ok : OkT t) (p : t.Perm l) : ACalls Try.prog 19 [encT t, encL l] h (fun r h' => r = .val (.bool true) ∧ h' = h) := by
  have hlen := ok.len
  have hle := p.length_eq
  have hok2 := ok.perm p
  have hkeys : srt (keysF t) = srt (keysF l) := srt_congr (p.map _)
  have hk1 : kindF t 1 = 0 := by
    unfold kindF
    have : lkF t 1 = none := lkF_none.2 fun q hq e => by
      have := (ok.el q hq).2.2.2.2
      rw [e] at this
      exact this (by decide)
    rw [this]; rfl
  refine ACalls.intro Try.func19 rfl Try.ntmps19 Try.results19 (Nat.le_of_ble_eq_true rfl) ?_
  (repeat' (first | (refine iS ?_; refine iMu ?_; refine S.mapU ?_) | (refine iS ?_; refine iZ ?_; refine S.nilq (fun b hq => ?_)) | refine sv1 ?_ | (refine iS ?_; first | (refine iT ?_; first | refine S.store_one ?_ | refine S.store_whole ?_ | refine S.store_elem ?_ | refine S.store_field ?_) | (refine iY ?_; refine S.copy ?_) | (refine iMd ?_; refine S.mapD ?_) | (refine iC ?_; first | refine S.append1 (fun u => ?_) | refine S.append (fun u => ?_) | refine S.append_nil (fun u => ?_)) | (refine iN ?_; first | refine S.build1 (fun u => ?_) | refine S.build2 (fun u => ?_) | refine S.build3 (fun u => ?_) | refine S.build0 (fun u => ?_)) | (refine iK ?_; refine S.make (fun u => ?_))) | (refine svg (fun hg => ?_) (fun hg => ?_) <;> try (exfalso; first | omega | contradiction)) | (refine svc (fun hc => ?_) (fun hc => ?_) <;> try (exfalso; first | omega | contradiction)) | refine sv2 ?_ | refine svh (fun hb => ?_) (fun hb => ?_) | refine svb (fun b => ?_) | refine sva ?_ | refine sv3 ?_))
  refine S.call ?_; refine (len_c1 t _).mono ?_; rintro r h' ⟨rfl, hh⟩; subst hh
  rw [hle]
  (repeat' (first | (refine iS ?_; refine iMu ?_; refine S.mapU ?_) | (refine iS ?_; refine iZ ?_; refine S.nilq (fun b hq => ?_)) | refine sv1 ?_ | (refine iS ?_; first | (refine iT ?_; first | refine S.store_one ?_ | refine S.store_whole ?_ | refine S.store_elem ?_ | refine S.store_field ?_) | (refine iY ?_; refine S.copy ?_) | (refine iMd ?_; refine S.mapD ?_) | (refine iC ?_; first | refine S.append1 (fun u => ?_) | refine S.append (fun u => ?_) | refine S.append_nil (fun u => ?_)) | (refine iN ?_; first | refine S.build1 (fun u => ?_) | refine S.build2 (fun u => ?_) | refine S.build3 (fun u => ?_) | refine S.build0 (fun u => ?_)) | (refine iK ?_; refine S.make (fun u => ?_))) | (refine svg (fun hg => ?_) (fun hg => ?_) <;> try (exfalso; first | omega | contradiction)) | (refine svc (fun hc => ?_) (fun hc => ?_) <;> try (exfalso; first | omega | contradiction)) | refine sv2 ?_ | refine svh (fun hb => ?_) (fun hb => ?_) | refine svb (fun b => ?_) | refine sva ?_ | refine sv3 ?_))
  refine S.call ?_; refine (all_c t _ (by omega)).mono ?_; rintro r h' ⟨rfl, hh⟩; subst hh
  (repeat' (first | (refine iS ?_; refine iMu ?_; refine S.mapU ?_) | (refine iS ?_; refine iZ ?_; refine S.nilq (fun b hq => ?_)) | refine sv1 ?_ | (refine iS ?_; first | (refine iT ?_; first | refine S.store_one ?_ | refine S.store_whole ?_ | refine S.store_elem ?_ | refine S.store_field ?_) | (refine iY ?_; refine S.copy ?_) | (refine iMd ?_; refine S.mapD ?_) | (refine iC ?_; first | refine S.append1 (fun u => ?_) | refine S.append (fun u => ?_) | refine S.append_nil (fun u => ?_)) | (refine iN ?_; first | refine S.build1 (fun u => ?_) | refine S.build2 (fun u => ?_) | refine S.build3 (fun u => ?_) | refine S.build0 (fun u => ?_)) | (refine iK ?_; refine S.make (fun u => ?_))) | (refine svg (fun hg => ?_) (fun hg => ?_) <;> try (exfalso; first | omega | contradiction)) | (refine svc (fun hc => ?_) (fun hc => ?_) <;> try (exfalso; first | omega | contradiction)) | refine sv2 ?_ | refine svh (fun hb => ?_) (fun hb => ?_) | refine svb (fun b => ?_) | refine sva ?_ | refine sv3 ?_))
  refine S.call ?_; refine (rall_c l _ (by omega)).mono ?_; rintro r h' ⟨rfl, hh⟩; subst hh
  rw [hkeys]
  (repeat' (first | (refine iS ?_; refine iMu ?_; refine S.mapU ?_) | (refine iS ?_; refine iZ ?_; refine S.nilq (fun b hq => ?_)) | refine sv1 ?_ | (refine iS ?_; first | (refine iT ?_; first | refine S.store_one ?_ | refine S.store_whole ?_ | refine S.store_elem ?_ | refine S.store_field ?_) | (refine iY ?_; refine S.copy ?_) | (refine iMd ?_; refine S.mapD ?_) | (refine iC ?_; first | refine S.append1 (fun u => ?_) | refine S.append (fun u => ?_) | refine S.append_nil (fun u => ?_)) | (refine iN ?_; first | refine S.build1 (fun u => ?_) | refine S.build2 (fun u => ?_) | refine S.build3 (fun u => ?_) | refine S.build0 (fun u => ?_)) | (refine iK ?_; refine S.make (fun u => ?_))) | (refine svg (fun hg => ?_) (fun hg => ?_) <;> try (exfalso; first | omega | contradiction)) | (refine svc (fun hc => ?_) (fun hc => ?_) <;> try (exfalso; first | omega | contradiction)) | refine sv2 ?_ | refine svh (fun hb => ?_) (fun hb => ?_) | refine svb (fun b => ?_) | refine sva ?_ | refine sv3 ?_))
  refine S.call ?_
  refine (same_c (srt (keysF l)) (srt (keysF l)) _).mono ?_
  rw [decide_eq_true rfl]
  rintro r h' ⟨rfl, hh⟩
  subst hh
  (repeat' (first | (refine iS ?_; refine iMu ?_; refine S.mapU ?_) | (refine iS ?_; refine iZ ?_; refine S.nilq (fun b hq => ?_)) | refine sv1 ?_ | (refine iS ?_; first | (refine iT ?_; first | refine S.store_one ?_ | refine S.store_whole ?_ | refine S.store_elem ?_ | refine S.store_field ?_) | (refine iY ?_; refine S.copy ?_) | (refine iMd ?_; refine S.mapD ?_) | (refine iC ?_; first | refine S.append1 (fun u => ?_) | refine S.append (fun u => ?_) | refine S.append_nil (fun u => ?_)) | (refine iN ?_; first | refine S.build1 (fun u => ?_) | refine S.build2 (fun u => ?_) | refine S.build3 (fun u => ?_) | refine S.build0 (fun u => ?_)) | (refine iK ?_; refine S.make (fun u => ?_))) | (refine svg (fun hg => ?_) (fun hg => ?_) <;> try (exfalso; first | omega | contradiction)) | (refine svc (fun hc => ?_) (fun hc => ?_) <;> try (exfalso; first | omega | contradiction)) | refine sv2 ?_ | refine svh (fun hb => ?_) (fun hb => ?_) | refine svb (fun b => ?_) | refine sva ?_ | refine sv3 ?_))
  refine S.call ?_; refine (kind_c t 1 _).mono ?_; rintro r h' ⟨rfl, hh⟩; subst hh
  rw [hk1]
  (repeat' (first | (refine iS ?_; refine iMu ?_; refine S.mapU ?_) | (refine iS ?_; refine iZ ?_; refine S.nilq (fun b hq => ?_)) | refine sv1 ?_ | (refine iS ?_; first | (refine iT ?_; first | refine S.store_one ?_ | refine S.store_whole ?_ | refine S.store_elem ?_ | refine S.store_field ?_) | (refine iY ?_; refine S.copy ?_) | (refine iMd ?_; refine S.mapD ?_) | (refine iC ?_; first | refine S.append1 (fun u => ?_) | refine S.append (fun u => ?_) | refine S.append_nil (fun u => ?_)) | (refine iN ?_; first | refine S.build1 (fun u => ?_) | refine S.build2 (fun u => ?_) | refine S.build3 (fun u => ?_) | refine S.build0 (fun u => ?_)) | (refine iK ?_; refine S.make (fun u => ?_))) | (refine svg (fun hg => ?_) (fun hg => ?_) <;> try (exfalso; first | omega | contradiction)) | (refine svc (fun hc => ?_) (fun hc => ?_) <;> try (exfalso; first | omega | contradiction)) | refine sv2 ?_ | refine svh (fun hb => ?_) (fun hb => ?_) | refine svb (fun b => ?_) | refine sva ?_ | refine sv3 ?_))
  revert b; intro b2
  refine W.loop (J := fun k : Nat => ⟨52, [(26, .val (.int .i64 (k : Int))), (4, .val (.bool false)), (2, .val (.pointer (some ⟨b2, 0, none⟩))), (1, encL l)], .box b2 (encT t).cells 24 :: h⟩)
    (Φ := fun k => k ≤ 10) (μ := fun k => 10 - k) 0 ⟨rfl, (by repeat (first | exact LeT.nil | refine LeT.cons rfl ?_ | refine LeT.consw rfl (by (repeat (first | exact Wk.refl _ | exact Wk.nilr _ | exact Wk.nilm | apply Wk.aggc | apply Wk.tupc | exact Wk.aggn | exact Wk.tupn)); first | done | fail) ?_)), (by repeat (first | exact LeH.refl _ | exact LeH.nil _ | refine LeH.cons (by (fail_if_success (apply tkG)); (repeat (first | exact Tk.here | apply Tk.there)); first | done | fail) ?_ | refine LeH.boxw (by (fail_if_success (apply tkG)); (repeat (first | exact Tk.here | apply Tk.there)); first | done | fail) (by (repeat (first | exact Wk.refl _ | exact Wk.nilr _ | exact Wk.nilm | apply Wk.aggc | apply Wk.tupc | exact Wk.aggn | exact Wk.tupn)); first | done | fail) ?_ | refine LeH.skip ?_))⟩ (Nat.zero_le _) ?_
  intro k hk
  rcases Nat.lt_or_ge k 10 with hlt | hge
  · (repeat' (first | (refine iS ?_; refine iMu ?_; refine S.mapU ?_) | (refine iS ?_; refine iZ ?_; refine S.nilq (fun b hq => ?_)) | refine sv1 ?_ | (refine iS ?_; first | (refine iT ?_; first | refine S.store_one ?_ | refine S.store_whole ?_ | refine S.store_elem ?_ | refine S.store_field ?_) | (refine iY ?_; refine S.copy ?_) | (refine iMd ?_; refine S.mapD ?_) | (refine iC ?_; first | refine S.append1 (fun u => ?_) | refine S.append (fun u => ?_) | refine S.append_nil (fun u => ?_)) | (refine iN ?_; first | refine S.build1 (fun u => ?_) | refine S.build2 (fun u => ?_) | refine S.build3 (fun u => ?_) | refine S.build0 (fun u => ?_)) | (refine iK ?_; refine S.make (fun u => ?_))) | (refine svg (fun hg => ?_) (fun hg => ?_) <;> try (exfalso; first | omega | contradiction)) | (refine svc (fun hc => ?_) (fun hc => ?_) <;> try (exfalso; first | omega | contradiction)) | refine sv2 ?_ | refine svh (fun hb => ?_) (fun hb => ?_) | refine svb (fun b => ?_) | refine sva ?_ | refine sv3 ?_))
    refine S.call ?_; refine (of_c t k _ (by omega) (fun q hq => ⟨(ok.el q hq).1, (ok.el q hq).2.1, (ok.el q hq).2.2.1, (ok.el q hq).2.2.2.1⟩)).mono ?_; rintro r h' ⟨rfl, hh⟩; subst hh
    rw [ofF_rofA ok p]
    (repeat' (first | (refine iS ?_; refine iMu ?_; refine S.mapU ?_) | (refine iS ?_; refine iZ ?_; refine S.nilq (fun b hq => ?_)) | refine sv1 ?_ | (refine iS ?_; first | (refine iT ?_; first | refine S.store_one ?_ | refine S.store_whole ?_ | refine S.store_elem ?_ | refine S.store_field ?_) | (refine iY ?_; refine S.copy ?_) | (refine iMd ?_; refine S.mapD ?_) | (refine iC ?_; first | refine S.append1 (fun u => ?_) | refine S.append (fun u => ?_) | refine S.append_nil (fun u => ?_)) | (refine iN ?_; first | refine S.build1 (fun u => ?_) | refine S.build2 (fun u => ?_) | refine S.build3 (fun u => ?_) | refine S.build0 (fun u => ?_)) | (refine iK ?_; refine S.make (fun u => ?_))) | (refine svg (fun hg => ?_) (fun hg => ?_) <;> try (exfalso; first | omega | contradiction)) | (refine svc (fun hc => ?_) (fun hc => ?_) <;> try (exfalso; first | omega | contradiction)) | refine sv2 ?_ | refine svh (fun hb => ?_) (fun hb => ?_) | refine svb (fun b => ?_) | refine sva ?_ | refine sv3 ?_))
    refine S.call ?_; refine (rof_c l k _ (by omega) (fun q hq => ⟨(hok2.el q hq).1, (hok2.el q hq).2.1⟩)).mono ?_; rintro r h' ⟨rfl, hh⟩; subst hh
    (repeat' (first | (refine iS ?_; refine iMu ?_; refine S.mapU ?_) | (refine iS ?_; refine iZ ?_; refine S.nilq (fun b hq => ?_)) | refine sv1 ?_ | (refine iS ?_; first | (refine iT ?_; first | refine S.store_one ?_ | refine S.store_whole ?_ | refine S.store_elem ?_ | refine S.store_field ?_) | (refine iY ?_; refine S.copy ?_) | (refine iMd ?_; refine S.mapD ?_) | (refine iC ?_; first | refine S.append1 (fun u => ?_) | refine S.append (fun u => ?_) | refine S.append_nil (fun u => ?_)) | (refine iN ?_; first | refine S.build1 (fun u => ?_) | refine S.build2 (fun u => ?_) | refine S.build3 (fun u => ?_) | refine S.build0 (fun u => ?_)) | (refine iK ?_; refine S.make (fun u => ?_))) | (refine svg (fun hg => ?_) (fun hg => ?_) <;> try (exfalso; first | omega | contradiction)) | (refine svc (fun hc => ?_) (fun hc => ?_) <;> try (exfalso; first | omega | contradiction)) | refine sv2 ?_ | refine svh (fun hb => ?_) (fun hb => ?_) | refine svb (fun b => ?_) | refine sva ?_ | refine sv3 ?_))
    refine S.call ?_
    refine (same_c (rofA l k 5) (rofA l k 5) _).mono ?_
    rw [decide_eq_true rfl]
    rintro r h' ⟨rfl, hh⟩
    subst hh
    (repeat' (first | (refine iS ?_; refine iMu ?_; refine S.mapU ?_) | (refine iS ?_; refine iZ ?_; refine S.nilq (fun b hq => ?_)) | refine sv1 ?_ | (refine iS ?_; first | (refine iT ?_; first | refine S.store_one ?_ | refine S.store_whole ?_ | refine S.store_elem ?_ | refine S.store_field ?_) | (refine iY ?_; refine S.copy ?_) | (refine iMd ?_; refine S.mapD ?_) | (refine iC ?_; first | refine S.append1 (fun u => ?_) | refine S.append (fun u => ?_) | refine S.append_nil (fun u => ?_)) | (refine iN ?_; first | refine S.build1 (fun u => ?_) | refine S.build2 (fun u => ?_) | refine S.build3 (fun u => ?_) | refine S.build0 (fun u => ?_)) | (refine iK ?_; refine S.make (fun u => ?_))) | (refine svg (fun hg => ?_) (fun hg => ?_) <;> try (exfalso; first | omega | contradiction)) | (refine svc (fun hc => ?_) (fun hc => ?_) <;> try (exfalso; first | omega | contradiction)) | refine sv2 ?_ | refine svh (fun hb => ?_) (fun hb => ?_) | refine svb (fun b => ?_) | refine sva ?_ | refine sv3 ?_))
    exact ⟨k + 1, hlt, ⟨rfl, (by repeat (first | exact LeT.nil | refine LeT.cons rfl ?_ | refine LeT.consw rfl (by (repeat (first | exact Wk.refl _ | exact Wk.nilr _ | exact Wk.nilm | apply Wk.aggc | apply Wk.tupc | exact Wk.aggn | exact Wk.tupn)); first | done | fail) ?_)), (by repeat (first | exact LeH.refl _ | exact LeH.nil _ | refine LeH.cons (by (fail_if_success (apply tkG)); (repeat (first | exact Tk.here | apply Tk.there)); first | done | fail) ?_ | refine LeH.boxw (by (fail_if_success (apply tkG)); (repeat (first | exact Tk.here | apply Tk.there)); first | done | fail) (by (repeat (first | exact Wk.refl _ | exact Wk.nilr _ | exact Wk.nilm | apply Wk.aggc | apply Wk.tupc | exact Wk.aggn | exact Wk.tupn)); first | done | fail) ?_ | refine LeH.skip ?_))⟩, by omega⟩
  · (repeat' (first | (refine iS ?_; refine iMu ?_; refine S.mapU ?_) | (refine iS ?_; refine iZ ?_; refine S.nilq (fun b hq => ?_)) | refine sv1 ?_ | (refine iS ?_; first | (refine iT ?_; first | refine S.store_one ?_ | refine S.store_whole ?_ | refine S.store_elem ?_ | refine S.store_field ?_) | (refine iY ?_; refine S.copy ?_) | (refine iMd ?_; refine S.mapD ?_) | (refine iC ?_; first | refine S.append1 (fun u => ?_) | refine S.append (fun u => ?_) | refine S.append_nil (fun u => ?_)) | (refine iN ?_; first | refine S.build1 (fun u => ?_) | refine S.build2 (fun u => ?_) | refine S.build3 (fun u => ?_) | refine S.build0 (fun u => ?_)) | (refine iK ?_; refine S.make (fun u => ?_))) | (refine svg (fun hg => ?_) (fun hg => ?_) <;> try (exfalso; first | omega | contradiction)) | (refine svc (fun hc => ?_) (fun hc => ?_) <;> try (exfalso; first | omega | contradiction)) | refine sv2 ?_ | refine svh (fun hb => ?_) (fun hb => ?_) | refine svb (fun b => ?_) | refine sva ?_ | refine sv3 ?_))
    refine W.loop (J := fun k : Nat => ⟨52, [(40, .val (.int .i64 (k : Int))), (39, .val (.int .i64 (l.length : Nat))), (38, encL l), (4, .val (.bool false)), (2, .val (.pointer (some ⟨b2, 0, none⟩)))], .box b2 (encT t).cells 24 :: h⟩)
      (Φ := fun k => k ≤ l.length) (μ := fun k => l.length - k) 0 ⟨rfl, (by repeat (first | exact LeT.nil | refine LeT.cons rfl ?_ | refine LeT.consw rfl (by (repeat (first | exact Wk.refl _ | exact Wk.nilr _ | exact Wk.nilm | apply Wk.aggc | apply Wk.tupc | exact Wk.aggn | exact Wk.tupn)); first | done | fail) ?_)), (by repeat (first | exact LeH.refl _ | exact LeH.nil _ | refine LeH.cons (by (fail_if_success (apply tkG)); (repeat (first | exact Tk.here | apply Tk.there)); first | done | fail) ?_ | refine LeH.boxw (by (fail_if_success (apply tkG)); (repeat (first | exact Tk.here | apply Tk.there)); first | done | fail) (by (repeat (first | exact Wk.refl _ | exact Wk.nilr _ | exact Wk.nilm | apply Wk.aggc | apply Wk.tupc | exact Wk.aggn | exact Wk.tupn)); first | done | fail) ?_ | refine LeH.skip ?_))⟩ (Nat.zero_le _) ?_
    intro k hk
    rcases Nat.lt_or_ge k l.length with hlt | hge
    · have hx : l[k]? = some l[k] := List.getElem?_eq_getElem hlt
      have hkd : kindF t l[k].1 = l[k].2 := (kind_perm ok p _).trans (hok2.kind (List.getElem_mem hlt))
      (repeat' (first | (refine iS ?_; refine iMu ?_; refine S.mapU ?_) | (refine iS ?_; refine iZ ?_; refine S.nilq (fun b hq => ?_)) | refine sv1 ?_ | (refine iS ?_; first | (refine iT ?_; first | refine S.store_one ?_ | refine S.store_whole ?_ | refine S.store_elem ?_ | refine S.store_field ?_) | (refine iY ?_; refine S.copy ?_) | (refine iMd ?_; refine S.mapD ?_) | (refine iC ?_; first | refine S.append1 (fun u => ?_) | refine S.append (fun u => ?_) | refine S.append_nil (fun u => ?_)) | (refine iN ?_; first | refine S.build1 (fun u => ?_) | refine S.build2 (fun u => ?_) | refine S.build3 (fun u => ?_) | refine S.build0 (fun u => ?_)) | (refine iK ?_; refine S.make (fun u => ?_))) | (refine svg (fun hg => ?_) (fun hg => ?_) <;> try (exfalso; first | omega | contradiction)) | (refine svc (fun hc => ?_) (fun hc => ?_) <;> try (exfalso; first | omega | contradiction)) | refine sv2 ?_ | refine svh (fun hb => ?_) (fun hb => ?_) | refine svb (fun b => ?_) | refine sva ?_ | refine sv3 ?_))
      refine R2.C (kind_c t l[k].1 _) ?_
      rw [hkd]
      (repeat' (first | (refine iS ?_; refine iMu ?_; refine S.mapU ?_) | (refine iS ?_; refine iZ ?_; refine S.nilq (fun b hq => ?_)) | refine sv1 ?_ | (refine iS ?_; first | (refine iT ?_; first | refine S.store_one ?_ | refine S.store_whole ?_ | refine S.store_elem ?_ | refine S.store_field ?_) | (refine iY ?_; refine S.copy ?_) | (refine iMd ?_; refine S.mapD ?_) | (refine iC ?_; first | refine S.append1 (fun u => ?_) | refine S.append (fun u => ?_) | refine S.append_nil (fun u => ?_)) | (refine iN ?_; first | refine S.build1 (fun u => ?_) | refine S.build2 (fun u => ?_) | refine S.build3 (fun u => ?_) | refine S.build0 (fun u => ?_)) | (refine iK ?_; refine S.make (fun u => ?_))) | (refine svg (fun hg => ?_) (fun hg => ?_) <;> try (exfalso; first | omega | contradiction)) | (refine svc (fun hc => ?_) (fun hc => ?_) <;> try (exfalso; first | omega | contradiction)) | refine sv2 ?_ | refine svh (fun hb => ?_) (fun hb => ?_) | refine svb (fun b => ?_) | refine sva ?_ | refine sv3 ?_))
      exact ⟨k + 1, hlt, ⟨rfl, (by repeat (first | exact LeT.nil | refine LeT.cons rfl ?_ | refine LeT.consw rfl (by (repeat (first | exact Wk.refl _ | exact Wk.nilr _ | exact Wk.nilm | apply Wk.aggc | apply Wk.tupc | exact Wk.aggn | exact Wk.tupn)); first | done | fail) ?_)), (by repeat (first | exact LeH.refl _ | exact LeH.nil _ | refine LeH.cons (by (fail_if_success (apply tkG)); (repeat (first | exact Tk.here | apply Tk.there)); first | done | fail) ?_ | refine LeH.boxw (by (fail_if_success (apply tkG)); (repeat (first | exact Tk.here | apply Tk.there)); first | done | fail) (by (repeat (first | exact Wk.refl _ | exact Wk.nilr _ | exact Wk.nilm | apply Wk.aggc | apply Wk.tupc | exact Wk.aggn | exact Wk.tupn)); first | done | fail) ?_ | refine LeH.skip ?_))⟩, by omega⟩
    · (repeat' (first | (refine iS ?_; refine iMu ?_; refine S.mapU ?_) | (refine iS ?_; refine iZ ?_; refine S.nilq (fun b hq => ?_)) | refine sv1 ?_ | (refine iS ?_; first | (refine iT ?_; first | refine S.store_one ?_ | refine S.store_whole ?_ | refine S.store_elem ?_ | refine S.store_field ?_) | (refine iY ?_; refine S.copy ?_) | (refine iMd ?_; refine S.mapD ?_) | (refine iC ?_; first | refine S.append1 (fun u => ?_) | refine S.append (fun u => ?_) | refine S.append_nil (fun u => ?_)) | (refine iN ?_; first | refine S.build1 (fun u => ?_) | refine S.build2 (fun u => ?_) | refine S.build3 (fun u => ?_) | refine S.build0 (fun u => ?_)) | (refine iK ?_; refine S.make (fun u => ?_))) | (refine svg (fun hg => ?_) (fun hg => ?_) <;> try (exfalso; first | omega | contradiction)) | (refine svc (fun hc => ?_) (fun hc => ?_) <;> try (exfalso; first | omega | contradiction)) | refine sv2 ?_ | refine svh (fun hb => ?_) (fun hb => ?_) | refine svb (fun b => ?_) | refine sva ?_ | refine sv3 ?_))
      exact fin_r (h' := h) ⟨rfl, rfl⟩
theorem awake_1 : addF [] 1 1048581 3 = ([(1048581, 3)], 0) := by decide +kernel
theorem awake_2 : addF [(1048581, 3)] 1 1048585 1 = ([(1048581, 3), (1048585, 1)], 0) := by decide +kernel
theorem awake_3 : addF [(1048581, 3), (1048585, 1)] 2 1048583 3 = ([(1048581, 3), (1048585, 1)], 16) := by decide +kernel
theorem awake_4 : ofF [(1048581, 3), (1048585, 1)] 1 = [1048585, 1048581] := by
  unfold ofF
  rw [show ofK [(1048581, 3), (1048585, 1)] 1 1 = [1048585] by decide +kernel, show ofK [(1048581, 3), (1048585, 1)] 1 2 = [] by decide +kernel, show ofK [(1048581, 3), (1048585, 1)] 1 3 = [1048581] by decide +kernel, show ofK [(1048581, 3), (1048585, 1)] 1 4 = [] by decide +kernel]
  simp [srt]
set_option maxRecDepth 100000 in
theorem awake_c (h : Heap) : ACalls Try.prog 9 [] h (fun r h' => r = .val (.bool true) ∧ h' = h) := by
  refine ACalls.intro Try.func9 rfl Try.ntmps9 Try.results9 (Nat.le_of_ble_eq_true rfl) ?_
  (repeat' (first | (refine iS ?_; refine iMu ?_; refine S.mapU ?_) | (refine iS ?_; refine iZ ?_; refine S.nilq (fun b hq => ?_)) | refine sv1 ?_ | (refine iS ?_; first | (refine iT ?_; first | refine S.store_one ?_ | refine S.store_whole ?_ | refine S.store_elem ?_ | refine S.store_field ?_) | (refine iY ?_; refine S.copy ?_) | (refine iMd ?_; refine S.mapD ?_) | (refine iC ?_; first | refine S.append1 (fun u => ?_) | refine S.append (fun u => ?_) | refine S.append_nil (fun u => ?_)) | (refine iN ?_; first | refine S.build1 (fun u => ?_) | refine S.build2 (fun u => ?_) | refine S.build3 (fun u => ?_) | refine S.build0 (fun u => ?_)) | (refine iK ?_; refine S.make (fun u => ?_))) | (refine svg (fun hg => ?_) (fun hg => ?_) <;> try (exfalso; first | omega | contradiction)) | (refine svc (fun hc => ?_) (fun hc => ?_) <;> try (exfalso; first | omega | contradiction)) | refine sv2 ?_ | refine svh (fun hb => ?_) (fun hb => ?_) | refine svb (fun b => ?_) | refine sva ?_ | refine sv3 ?_))
  refine S.call ?_
  refine (ACalls.args (by (repeat (first | exact Wk.refl _ | exact Wk.nilr _ | exact Wk.nilm | apply Wk.aggc | apply Wk.tupc | exact Wk.aggn | exact Wk.tupn)); first | done | fail) (add_c [] 1 1048581 3 _ (by simp) (by simp) (by decide) (by decide) (by simp))).mono ?_
  rw [awake_1]
  rintro r h' ⟨rfl, hh⟩
  subst hh
  (repeat' (first | (refine iS ?_; refine iMu ?_; refine S.mapU ?_) | (refine iS ?_; refine iZ ?_; refine S.nilq (fun b hq => ?_)) | refine sv1 ?_ | (refine iS ?_; first | (refine iT ?_; first | refine S.store_one ?_ | refine S.store_whole ?_ | refine S.store_elem ?_ | refine S.store_field ?_) | (refine iY ?_; refine S.copy ?_) | (refine iMd ?_; refine S.mapD ?_) | (refine iC ?_; first | refine S.append1 (fun u => ?_) | refine S.append (fun u => ?_) | refine S.append_nil (fun u => ?_)) | (refine iN ?_; first | refine S.build1 (fun u => ?_) | refine S.build2 (fun u => ?_) | refine S.build3 (fun u => ?_) | refine S.build0 (fun u => ?_)) | (refine iK ?_; refine S.make (fun u => ?_))) | (refine svg (fun hg => ?_) (fun hg => ?_) <;> try (exfalso; first | omega | contradiction)) | (refine svc (fun hc => ?_) (fun hc => ?_) <;> try (exfalso; first | omega | contradiction)) | refine sv2 ?_ | refine svh (fun hb => ?_) (fun hb => ?_) | refine svb (fun b => ?_) | refine sva ?_ | refine sv3 ?_))
  refine S.call ?_
  refine (add_c [(1048581, 3)] 1 1048585 1 _ (by simp) (by simp) (by decide) (by decide) (by simp)).mono ?_
  rw [awake_2]
  rintro r h' ⟨rfl, hh⟩
  subst hh
  (repeat' (first | (refine iS ?_; refine iMu ?_; refine S.mapU ?_) | (refine iS ?_; refine iZ ?_; refine S.nilq (fun b hq => ?_)) | refine sv1 ?_ | (refine iS ?_; first | (refine iT ?_; first | refine S.store_one ?_ | refine S.store_whole ?_ | refine S.store_elem ?_ | refine S.store_field ?_) | (refine iY ?_; refine S.copy ?_) | (refine iMd ?_; refine S.mapD ?_) | (refine iC ?_; first | refine S.append1 (fun u => ?_) | refine S.append (fun u => ?_) | refine S.append_nil (fun u => ?_)) | (refine iN ?_; first | refine S.build1 (fun u => ?_) | refine S.build2 (fun u => ?_) | refine S.build3 (fun u => ?_) | refine S.build0 (fun u => ?_)) | (refine iK ?_; refine S.make (fun u => ?_))) | (refine svg (fun hg => ?_) (fun hg => ?_) <;> try (exfalso; first | omega | contradiction)) | (refine svc (fun hc => ?_) (fun hc => ?_) <;> try (exfalso; first | omega | contradiction)) | refine sv2 ?_ | refine svh (fun hb => ?_) (fun hb => ?_) | refine svb (fun b => ?_) | refine sva ?_ | refine sv3 ?_))
  refine S.call ?_
  refine (add_c [(1048581, 3), (1048585, 1)] 2 1048583 3 _ (by simp) (by simp) (by decide) (by decide) (by simp)).mono ?_
  rw [awake_3]
  rintro r h' ⟨rfl, hh⟩
  subst hh
  (repeat' (first | (refine iS ?_; refine iMu ?_; refine S.mapU ?_) | (refine iS ?_; refine iZ ?_; refine S.nilq (fun b hq => ?_)) | refine sv1 ?_ | (refine iS ?_; first | (refine iT ?_; first | refine S.store_one ?_ | refine S.store_whole ?_ | refine S.store_elem ?_ | refine S.store_field ?_) | (refine iY ?_; refine S.copy ?_) | (refine iMd ?_; refine S.mapD ?_) | (refine iC ?_; first | refine S.append1 (fun u => ?_) | refine S.append (fun u => ?_) | refine S.append_nil (fun u => ?_)) | (refine iN ?_; first | refine S.build1 (fun u => ?_) | refine S.build2 (fun u => ?_) | refine S.build3 (fun u => ?_) | refine S.build0 (fun u => ?_)) | (refine iK ?_; refine S.make (fun u => ?_))) | (refine svg (fun hg => ?_) (fun hg => ?_) <;> try (exfalso; first | omega | contradiction)) | (refine svc (fun hc => ?_) (fun hc => ?_) <;> try (exfalso; first | omega | contradiction)) | refine sv2 ?_ | refine svh (fun hb => ?_) (fun hb => ?_) | refine svb (fun b => ?_) | refine sva ?_ | refine sv3 ?_))
  refine S.call ?_
  refine (of_c [(1048581, 3), (1048585, 1)] 1 _ (by simp) (by simp)).mono ?_
  rw [awake_4]
  rintro r h' ⟨rfl, hh⟩
  subst hh
  (repeat' (first | (refine iS ?_; refine iMu ?_; refine S.mapU ?_) | (refine iS ?_; refine iZ ?_; refine S.nilq (fun b hq => ?_)) | refine sv1 ?_ | (refine iS ?_; first | (refine iT ?_; first | refine S.store_one ?_ | refine S.store_whole ?_ | refine S.store_elem ?_ | refine S.store_field ?_) | (refine iY ?_; refine S.copy ?_) | (refine iMd ?_; refine S.mapD ?_) | (refine iC ?_; first | refine S.append1 (fun u => ?_) | refine S.append (fun u => ?_) | refine S.append_nil (fun u => ?_)) | (refine iN ?_; first | refine S.build1 (fun u => ?_) | refine S.build2 (fun u => ?_) | refine S.build3 (fun u => ?_) | refine S.build0 (fun u => ?_)) | (refine iK ?_; refine S.make (fun u => ?_))) | (refine svg (fun hg => ?_) (fun hg => ?_) <;> try (exfalso; first | omega | contradiction)) | (refine svc (fun hc => ?_) (fun hc => ?_) <;> try (exfalso; first | omega | contradiction)) | refine sv2 ?_ | refine svh (fun hb => ?_) (fun hb => ?_) | refine svb (fun b => ?_) | refine sva ?_ | refine sv3 ?_))
  refine Step.frz (v := u) (by (fail_if_success (apply tkG)); (repeat (first | exact Tk.here | apply Tk.there)); first | done | fail) (by repeat' (first | apply FrzT.cons | exact FrzT.rest _ | exact Frz.hit | apply Frz.aggc | apply Frz.tupc | exact Frz.aggn | exact Frz.tupn | exact Frz.keep _)) (by repeat' (first | apply FrzH.box | apply FrzH.keep | exact FrzH.rest _ | exact Frz.hit | apply Frz.aggc | apply Frz.tupc | exact Frz.aggn | exact Frz.tupn | exact Frz.keep _)) ?_
  refine S.call ?_
  refine (same_c [1048585, 1048581] [1048585, 1048581] _).mono ?_
  rw [decide_eq_true rfl]
  rintro r h' ⟨rfl, hh⟩
  subst hh
  (repeat' (first | (refine iS ?_; refine iMu ?_; refine S.mapU ?_) | (refine iS ?_; refine iZ ?_; refine S.nilq (fun b hq => ?_)) | refine sv1 ?_ | (refine iS ?_; first | (refine iT ?_; first | refine S.store_one ?_ | refine S.store_whole ?_ | refine S.store_elem ?_ | refine S.store_field ?_) | (refine iY ?_; refine S.copy ?_) | (refine iMd ?_; refine S.mapD ?_) | (refine iC ?_; first | refine S.append1 (fun u => ?_) | refine S.append (fun u => ?_) | refine S.append_nil (fun u => ?_)) | (refine iN ?_; first | refine S.build1 (fun u => ?_) | refine S.build2 (fun u => ?_) | refine S.build3 (fun u => ?_) | refine S.build0 (fun u => ?_)) | (refine iK ?_; refine S.make (fun u => ?_))) | (refine svg (fun hg => ?_) (fun hg => ?_) <;> try (exfalso; first | omega | contradiction)) | (refine svc (fun hc => ?_) (fun hc => ?_) <;> try (exfalso; first | omega | contradiction)) | refine sv2 ?_ | refine svh (fun hb => ?_) (fun hb => ?_) | refine svb (fun b => ?_) | refine sva ?_ | refine sv3 ?_))
  refine S.call ?_; refine (len_c1 [(1048581, 3), (1048585, 1)] _).mono ?_; rintro r h' ⟨rfl, hh⟩; subst hh
  (repeat' (first | (refine iS ?_; refine iMu ?_; refine S.mapU ?_) | (refine iS ?_; refine iZ ?_; refine S.nilq (fun b hq => ?_)) | refine sv1 ?_ | (refine iS ?_; first | (refine iT ?_; first | refine S.store_one ?_ | refine S.store_whole ?_ | refine S.store_elem ?_ | refine S.store_field ?_) | (refine iY ?_; refine S.copy ?_) | (refine iMd ?_; refine S.mapD ?_) | (refine iC ?_; first | refine S.append1 (fun u => ?_) | refine S.append (fun u => ?_) | refine S.append_nil (fun u => ?_)) | (refine iN ?_; first | refine S.build1 (fun u => ?_) | refine S.build2 (fun u => ?_) | refine S.build3 (fun u => ?_) | refine S.build0 (fun u => ?_)) | (refine iK ?_; refine S.make (fun u => ?_))) | (refine svg (fun hg => ?_) (fun hg => ?_) <;> try (exfalso; first | omega | contradiction)) | (refine svc (fun hc => ?_) (fun hc => ?_) <;> try (exfalso; first | omega | contradiction)) | refine sv2 ?_ | refine svh (fun hb => ?_) (fun hb => ?_) | refine svb (fun b => ?_) | refine sva ?_ | refine sv3 ?_))
  exact fin_r (h' := h') ⟨rfl, rfl⟩
end Go.Proofs.Ytmhncankbgjmbaa
