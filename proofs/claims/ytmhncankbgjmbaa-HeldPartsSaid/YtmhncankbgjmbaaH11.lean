/- HeldParts. No condition. -/
import Derived.Test.YtmhncankbgjmbaaH7
namespace Go.Proofs.Ytmhncankbgjmbaa
open Go Go.VM
attribute [local irreducible] PurV Pur Step RL W D ACalls Then InBlock Fini
set_option linter.unusedVariables false
set_option linter.unusedSimpArgs false
set_option maxHeartbeats 20000000
def mT (xs : List Int) : List (Int × Bool) := xs.map fun x => (x, true)
theorem lk_no {xs : List Int} {i : Int} (h : i ∉ xs) : lkF (mT xs) i = none := lkF_none.2 fun p hp e => by
  obtain ⟨y, hy, rfl⟩ := List.mem_map.1 hp
  exact h (e ▸ hy)
theorem lk_yes {xs : List Int} {i : Int} (h : i ∈ xs) : lkF (mT xs) i = some true := by
  cases e : lkF (mT xs) i with
  | none => exact absurd rfl (lkF_none.1 e (i, true) (List.mem_map.2 ⟨i, h, rfl⟩))
  | some a =>
    obtain ⟨y, hy, e2⟩ := List.mem_map.1 (lkF_some e)
    injection e2 with _ e3
    rw [e3]
theorem put_new {xs : List Int} {i : Int} (h : i ∉ xs) : putF (mT xs) i true = mT (xs ++ [i]) := by
  rw [putF_new]
  · simp [mT]
  · intro hm
    obtain ⟨p, hp, e⟩ := List.mem_map.1 hm
    obtain ⟨y, hy, rfl⟩ := List.mem_map.1 hp
    exact h (e ▸ hy)
theorem mem_ofK {t : TB} {c k x : Int} : x ∈ ofK t c k ↔ (x, k) ∈ t ∧ mineF c x = true := by
  unfold ofK
  constructor
  · intro h
    obtain ⟨p, hp, rfl⟩ := List.mem_map.1 h
    have := List.mem_filter.1 hp
    simp at this
    exact ⟨by rw [← this.2.2]; exact this.1, this.2.1⟩
  · rintro ⟨h1, h2⟩
    exact List.mem_map.2 ⟨(x, k), List.mem_filter.2 ⟨h1, by simp [h2]⟩, rfl⟩
theorem mem_srt {l : List Int} {x : Int} : x ∈ srt l ↔ x ∈ l := (srt_perm l).mem_iff
theorem mem_ofF {t : TB} (ok : OkT t) {c x : Int} : x ∈ ofF t c ↔ x ∈ keysF t ∧ mineF c x = true := by
  unfold ofF
  simp only [List.mem_append, mem_srt, mem_ofK]
  constructor
  · rintro (h | h | h | h)
    all_goals exact ⟨List.mem_map.2 ⟨_, h.1, rfl⟩, h.2⟩
  · rintro ⟨h1, h2⟩
    obtain ⟨⟨y, k⟩, hp, rfl⟩ := List.mem_map.1 h1
    have := ok.el _ hp
    simp only at this h2 ⊢
    obtain h | h | h | h : k = 1 ∨ k = 2 ∨ k = 3 ∨ k = 4 := by omega
    all_goals subst h
    · exact .inl ⟨hp, h2⟩
    · exact .inr (.inl ⟨hp, h2⟩)
    · exact .inr (.inr (.inl ⟨hp, h2⟩))
    · exact .inr (.inr (.inr ⟨hp, h2⟩))
theorem nd_ofK {t : TB} (ok : OkT t) (c k : Int) : (srt (ofK t c k)).Nodup := by
  rw [(srt_perm _).nodup_iff]
  exact ok.nd.sublist (List.filter_sublist.map _)
theorem dis_ofK {t : TB} (ok : OkT t) {c k k' : Int} (h : k ≠ k') : ∀ a ∈ srt (ofK t c k), ∀ b ∈ srt (ofK t c k'), a ≠ b := fun a ha b hb e => by
  subst e
  have h1 := ok.kind (mem_ofK.1 (mem_srt.1 ha)).1
  have h2 := ok.kind (mem_ofK.1 (mem_srt.1 hb)).1
  exact h (h1.symm.trans h2)
theorem nd_ofF {t : TB} (ok : OkT t) (c : Int) : (ofF t c).Nodup := by
  unfold ofF
  refine List.nodup_append.2 ⟨nd_ofK ok c 1, List.nodup_append.2 ⟨nd_ofK ok c 2, List.nodup_append.2 ⟨nd_ofK ok c 3, nd_ofK ok c 4, dis_ofK ok (by decide)⟩, ?_⟩, ?_⟩
  · intro a ha b hb
    rcases List.mem_append.1 hb with hb | hb
    · exact dis_ofK ok (by decide) a ha b hb
    · exact dis_ofK ok (by decide) a ha b hb
  · intro a ha b hb
    rcases List.mem_append.1 hb with hb | hb
    · exact dis_ofK ok (by decide) a ha b hb
    · rcases List.mem_append.1 hb with hb | hb
      · exact dis_ofK ok (by decide) a ha b hb
      · exact dis_ofK ok (by decide) a ha b hb
def parF (t : TB) : Nat → List Int
  | 0 => []
  | n + 1 => parF t n ++ ofF t ((n : Int) + 1)
theorem mem_parF {t : TB} (ok : OkT t) {x : Int} : ∀ {n : Nat}, x ∈ parF t n ↔ ∃ c : Nat, 1 ≤ c ∧ c ≤ n ∧ x ∈ keysF t ∧ mineF c x = true
  | 0 => ⟨fun h => by simp [parF] at h, fun ⟨c, h1, h2, _⟩ => by omega⟩
  | n + 1 => by
    unfold parF
    rw [List.mem_append, mem_parF ok, mem_ofF ok]
    constructor
    · rintro (⟨c, h1, h2, h3⟩ | h)
      · exact ⟨c, h1, by omega, h3⟩
      · exact ⟨n + 1, by omega, by omega, h⟩
    · rintro ⟨c, h1, h2, h3⟩
      by_cases h : c = n + 1
      · subst h; exact .inr h3
      · exact .inl ⟨c, h1, by omega, h3⟩
theorem mine_one {c c' x : Int} (h : mineF c x = true) (h' : mineF c' x = true) : c = c' := ((mine_rc _ _).1 h).2.symm.trans ((mine_rc _ _).1 h').2
theorem no_parF {t : TB} (ok : OkT t) {n : Nat} {x : Int} (h : x ∈ ofF t ((n : Int) + 1)) : x ∉ parF t n := fun hm => by
  obtain ⟨c, h1, h2, _, h3⟩ := (mem_parF ok).1 hm
  have := mine_one h3 ((mem_ofF ok).1 h).2
  omega
theorem nd_parF {t : TB} (ok : OkT t) : ∀ n, (parF t n).Nodup
  | 0 => by simp [parF]
  | n + 1 => by
    unfold parF
    exact List.nodup_append.2 ⟨nd_parF ok n, nd_ofF ok _, fun a ha b hb e => no_parF ok (n := n) (by rw [e]; exact hb) ha⟩
theorem parF_perm {t : TB} (ok : OkT t) : (parF t 8).Perm (keysF t) := by
  refine (List.perm_ext_iff_of_nodup (nd_parF ok 8) ok.nd).2 fun x => ?_
  rw [mem_parF ok]
  constructor
  · rintro ⟨c, _, _, h, _⟩; exact h
  · intro h
    obtain ⟨p, hp, rfl⟩ := List.mem_map.1 h
    have := (ok.el p hp).2.2.2.2
    have hb : 1 ≤ rcF p.1 ∧ rcF p.1 ≤ 8 := by
      unfold rcF at this ⊢
      split <;> rename_i hq
      · rw [if_pos hq] at this; exact absurd rfl this
      · omega
    exact ⟨(rcF p.1).toNat, by omega, by omega, h, (mine_rc _ _).2 ⟨this, by omega⟩⟩
theorem parF_len (t : TB) : ∀ n, (parF t n).length ≤ n * (4 * t.length)
  | 0 => by simp [parF]
  | n + 1 => by
    have h0 := parF_len t n
    have hk : ∀ k : Int, (srt (ofK t ((n : Int) + 1) k)).length ≤ t.length := fun k => by rw [(srt_perm _).length_eq]; exact ofK_len ..
    have := hk 1; have := hk 2; have := hk 3; have := hk 4
    unfold parF ofF
    simp only [List.length_append]
    rw [Nat.add_mul]
    omega
theorem ofF_len (t : TB) (c : Int) : (ofF t c).length ≤ 4 * t.length := by
  have hk : ∀ k : Int, (srt (ofK t c k)).length ≤ t.length := fun k => by rw [(srt_perm _).length_eq]; exact ofK_len ..
  have := hk 1; have := hk 2; have := hk 3; have := hk 4
  unfold ofF
  simp only [List.length_append]
  omega
set_option maxRecDepth 100000 in
theorem parts_c (l : List AC) (h : Heap) (hl : l.length ≤ 9223372036854775807) (hr : ∀ a ∈ l, 0 ≤ a.id ∧ a.id ≤ 4294967295) :
    ACalls Try.prog 5 [.ro 4 (l.map AC.enc)] h (fun r h' => r = .val (.bool true) ∧ h' = h) := by
  refine ACalls.intro Try.func5 rfl Try.ntmps5 Try.results5 (Nat.le_of_ble_eq_true rfl) ?_
  (repeat' (first | (refine iR2 ?_; refine r2b ?_; refine R2.one ?_) | (refine iS ?_; refine iN ?_; refine S.build1r ?_) | (refine iS ?_; refine iMu ?_; refine S.mapU ?_) | (refine iS ?_; refine iZ ?_; refine S.nilq (fun b hq => ?_)) | refine sv1 ?_ | (refine iS ?_; first | (refine iT ?_; first | refine S.store_one ?_ | refine S.store_whole ?_ | refine S.store_elem ?_ | refine S.store_field ?_) | (refine iY ?_; refine S.copy ?_) | (refine iMd ?_; refine S.mapD ?_) | (refine iC ?_; first | refine S.append1 (fun u => ?_) | refine S.append (fun u => ?_) | refine S.append_nil (fun u => ?_)) | (refine iN ?_; first | refine S.build1 (fun u => ?_) | refine S.build2 (fun u => ?_) | refine S.build3 (fun u => ?_) | refine S.build0 (fun u => ?_)) | (refine iK ?_; refine S.make (fun u => ?_))) | (refine svg (fun hg => ?_) (fun hg => ?_) <;> try (exfalso; first | omega | contradiction)) | (refine svc (fun hc => ?_) (fun hc => ?_) <;> try (exfalso; first | omega | contradiction)) | refine sv2 ?_ | refine svh (fun hb => ?_) (fun hb => ?_) | refine svb (fun b => ?_) | refine sva ?_ | refine sv3 ?_))
  refine S.call ?_
  refine (filled_c l _ hl hr).mono ?_
  rintro r h' ⟨⟨y, rfl, hx, hx2⟩, hh⟩
  subst hh
  by_cases hb : l.length ≤ 200
  case neg =>
    rw [decide_eq_false hb, hx2 hb]
    (repeat' (first | (refine iR2 ?_; refine r2b ?_; refine R2.one ?_) | (refine iS ?_; refine iN ?_; refine S.build1r ?_) | (refine iS ?_; refine iMu ?_; refine S.mapU ?_) | (refine iS ?_; refine iZ ?_; refine S.nilq (fun b hq => ?_)) | refine sv1 ?_ | (refine iS ?_; first | (refine iT ?_; first | refine S.store_one ?_ | refine S.store_whole ?_ | refine S.store_elem ?_ | refine S.store_field ?_) | (refine iY ?_; refine S.copy ?_) | (refine iMd ?_; refine S.mapD ?_) | (refine iC ?_; first | refine S.append1 (fun u => ?_) | refine S.append (fun u => ?_) | refine S.append_nil (fun u => ?_)) | (refine iN ?_; first | refine S.build1 (fun u => ?_) | refine S.build2 (fun u => ?_) | refine S.build3 (fun u => ?_) | refine S.build0 (fun u => ?_)) | (refine iK ?_; refine S.make (fun u => ?_))) | (refine svg (fun hg => ?_) (fun hg => ?_) <;> try (exfalso; first | omega | contradiction)) | (refine svc (fun hc => ?_) (fun hc => ?_) <;> try (exfalso; first | omega | contradiction)) | refine sv2 ?_ | refine svh (fun hb => ?_) (fun hb => ?_) | refine svb (fun b => ?_) | refine sva ?_ | refine sv3 ?_))
    refine S.call ?_; refine (awake_c _).mono ?_; rintro r h' ⟨rfl, hh⟩; subst hh
    (repeat' (first | (refine iR2 ?_; refine r2b ?_; refine R2.one ?_) | (refine iS ?_; refine iN ?_; refine S.build1r ?_) | (refine iS ?_; refine iMu ?_; refine S.mapU ?_) | (refine iS ?_; refine iZ ?_; refine S.nilq (fun b hq => ?_)) | refine sv1 ?_ | (refine iS ?_; first | (refine iT ?_; first | refine S.store_one ?_ | refine S.store_whole ?_ | refine S.store_elem ?_ | refine S.store_field ?_) | (refine iY ?_; refine S.copy ?_) | (refine iMd ?_; refine S.mapD ?_) | (refine iC ?_; first | refine S.append1 (fun u => ?_) | refine S.append (fun u => ?_) | refine S.append_nil (fun u => ?_)) | (refine iN ?_; first | refine S.build1 (fun u => ?_) | refine S.build2 (fun u => ?_) | refine S.build3 (fun u => ?_) | refine S.build0 (fun u => ?_)) | (refine iK ?_; refine S.make (fun u => ?_))) | (refine svg (fun hg => ?_) (fun hg => ?_) <;> try (exfalso; first | omega | contradiction)) | (refine svc (fun hc => ?_) (fun hc => ?_) <;> try (exfalso; first | omega | contradiction)) | refine sv2 ?_ | refine svh (fun hb => ?_) (fun hb => ?_) | refine svb (fun b => ?_) | refine sva ?_ | refine sv3 ?_))
    exact fin_r (h' := _) ⟨rfl, rfl⟩
  rw [decide_eq_true hb, hx hb]
  clear hx hx2
  have ok := ok_fil l hr
  generalize filF l = T at *
  have hlen := ok.len
  rename Heap => h
  (repeat' (first | (refine iR2 ?_; refine r2b ?_; refine R2.one ?_) | (refine iS ?_; refine iN ?_; refine S.build1r ?_) | (refine iS ?_; refine iMu ?_; refine S.mapU ?_) | (refine iS ?_; refine iZ ?_; refine S.nilq (fun b hq => ?_)) | refine sv1 ?_ | (refine iS ?_; first | (refine iT ?_; first | refine S.store_one ?_ | refine S.store_whole ?_ | refine S.store_elem ?_ | refine S.store_field ?_) | (refine iY ?_; refine S.copy ?_) | (refine iMd ?_; refine S.mapD ?_) | (refine iC ?_; first | refine S.append1 (fun u => ?_) | refine S.append (fun u => ?_) | refine S.append_nil (fun u => ?_)) | (refine iN ?_; first | refine S.build1 (fun u => ?_) | refine S.build2 (fun u => ?_) | refine S.build3 (fun u => ?_) | refine S.build0 (fun u => ?_)) | (refine iK ?_; refine S.make (fun u => ?_))) | (refine svg (fun hg => ?_) (fun hg => ?_) <;> try (exfalso; first | omega | contradiction)) | (refine svc (fun hc => ?_) (fun hc => ?_) <;> try (exfalso; first | omega | contradiction)) | refine sv2 ?_ | refine svh (fun hb => ?_) (fun hb => ?_) | refine svb (fun b => ?_) | refine sva ?_ | refine sv3 ?_))
  revert b; intro b3
  refine S.mkm0 vB (fun b5 => ?_)
  (repeat' (first | (refine iS ?_; refine iZ ?_; refine S.nilq (fun b hq => ?_)) | refine sv1 ?_ | (refine iS ?_; first | (refine iT ?_; first | refine S.store_one ?_ | refine S.store_whole ?_ | refine S.store_elem ?_ | refine S.store_field ?_) | (refine iY ?_; refine S.copy ?_) | (refine iMd ?_; refine S.mapD ?_) | (refine iC ?_; first | refine S.append1 (fun u => ?_) | refine S.append (fun u => ?_) | refine S.append_nil (fun u => ?_)) | (refine iN ?_; first | refine S.build1 (fun u => ?_) | refine S.build2 (fun u => ?_) | refine S.build3 (fun u => ?_) | refine S.build0 (fun u => ?_)) | (refine iK ?_; refine S.make (fun u => ?_))) | (refine svg (fun hg => ?_) (fun hg => ?_) <;> try (exfalso; first | omega | contradiction)) | (refine svc (fun hc => ?_) (fun hc => ?_) <;> try (exfalso; first | omega | contradiction)) | refine sv2 ?_ | refine svh (fun hb => ?_) (fun hb => ?_) | refine svb (fun b => ?_) | refine sva ?_ | refine sv3 ?_))
  have hn8 : (parF T 8).length = T.length := (parF_perm ok).length_eq.trans (List.length_map _)
  refine W.loop (J := fun c : Nat => ⟨87, [(7, .val (.int .i64 ((c : Int) + 1))), (6, .val (.int .i64 ((parF T c).length : Nat))), (5, .val (.map (some b5))), (3, .val (.pointer (some ⟨b3, 0, none⟩))), (2, .val (.bool false))], mpV b5 .u32 vB (mT (parF T c)) :: .box b3 (encT T).cells 24 :: h⟩)
    (Φ := fun c => c ≤ 8) (μ := fun c => 8 - c) 0 ⟨rfl, (by repeat (first | exact LeT.nil | refine LeT.cons rfl ?_ | refine LeT.consw rfl (by (repeat (first | exact Wk.refl _ | exact Wk.nilr _ | exact Wk.nilm | apply Wk.aggc | apply Wk.tupc | exact Wk.aggn | exact Wk.tupn)); first | done | fail) ?_)), (by repeat (first | exact LeH.refl _ | exact LeH.nil _ | refine LeH.cons (by (fail_if_success (apply tkG)); (repeat (first | exact Tk.here | apply Tk.there)); first | done | fail) ?_ | refine LeH.boxw (by (fail_if_success (apply tkG)); (repeat (first | exact Tk.here | apply Tk.there)); first | done | fail) (by (repeat (first | exact Wk.refl _ | exact Wk.nilr _ | exact Wk.nilm | apply Wk.aggc | apply Wk.tupc | exact Wk.aggn | exact Wk.tupn)); first | done | fail) ?_ | refine LeH.skip ?_))⟩ (Nat.zero_le _) ?_
  intro c hc
  rcases Nat.lt_or_ge c 8 with hlt | hge
  · have hp1 := parF_len T c
    have hp2 : (parF T c).length ≤ 32768 := by
      have : c * (4 * T.length) ≤ 8 * (4 * 1024) := Nat.mul_le_mul (by omega) (by omega)
      omega
    have ho := ofF_len T ((c : Int) + 1)
    (repeat' (first | (refine iS ?_; refine iZ ?_; refine S.nilq (fun b hq => ?_)) | refine sv1 ?_ | (refine iS ?_; first | (refine iT ?_; first | refine S.store_one ?_ | refine S.store_whole ?_ | refine S.store_elem ?_ | refine S.store_field ?_) | (refine iY ?_; refine S.copy ?_) | (refine iMd ?_; refine S.mapD ?_) | (refine iC ?_; first | refine S.append1 (fun u => ?_) | refine S.append (fun u => ?_) | refine S.append_nil (fun u => ?_)) | (refine iN ?_; first | refine S.build1 (fun u => ?_) | refine S.build2 (fun u => ?_) | refine S.build3 (fun u => ?_) | refine S.build0 (fun u => ?_)) | (refine iK ?_; refine S.make (fun u => ?_))) | (refine svg (fun hg => ?_) (fun hg => ?_) <;> try (exfalso; first | omega | contradiction)) | (refine svc (fun hc => ?_) (fun hc => ?_) <;> try (exfalso; first | omega | contradiction)) | refine sv2 ?_ | refine svh (fun hb => ?_) (fun hb => ?_) | refine svb (fun b => ?_) | refine sva ?_ | refine sv3 ?_))
    refine S.call ?_; refine (of_c T ((c : Int) + 1) _ (by omega) ok.of).mono ?_; rintro r h' ⟨rfl, hh⟩; subst hh
    (repeat' (first | (refine iS ?_; refine iZ ?_; refine S.nilq (fun b hq => ?_)) | refine sv1 ?_ | (refine iS ?_; first | (refine iT ?_; first | refine S.store_one ?_ | refine S.store_whole ?_ | refine S.store_elem ?_ | refine S.store_field ?_) | (refine iY ?_; refine S.copy ?_) | (refine iMd ?_; refine S.mapD ?_) | (refine iC ?_; first | refine S.append1 (fun u => ?_) | refine S.append (fun u => ?_) | refine S.append_nil (fun u => ?_)) | (refine iN ?_; first | refine S.build1 (fun u => ?_) | refine S.build2 (fun u => ?_) | refine S.build3 (fun u => ?_) | refine S.build0 (fun u => ?_)) | (refine iK ?_; refine S.make (fun u => ?_))) | (refine svg (fun hg => ?_) (fun hg => ?_) <;> try (exfalso; first | omega | contradiction)) | (refine svc (fun hc => ?_) (fun hc => ?_) <;> try (exfalso; first | omega | contradiction)) | refine sv2 ?_ | refine svh (fun hb => ?_) (fun hb => ?_) | refine svb (fun b => ?_) | refine sva ?_ | refine sv3 ?_))
    refine W.loop (J := fun j : Nat => ⟨87, [(30, .val (.int .i64 (j : Int))), (29, .val (.int .i64 ((ofF T ((c : Int) + 1)).length : Nat))), (28, .ro 1 (ints .u32 (ofF T ((c : Int) + 1)))), (7, .val (.int .i64 ((c : Int) + 1))), (6, .val (.int .i64 ((parF T c).length + j : Nat))), (5, .val (.map (some b5))), (3, .val (.pointer (some ⟨b3, 0, none⟩))), (2, .val (.bool false))], mpV b5 .u32 vB (mT (parF T c ++ (ofF T ((c : Int) + 1)).take j)) :: .box b3 (encT T).cells 24 :: h⟩)
      (Φ := fun j => j ≤ (ofF T ((c : Int) + 1)).length) (μ := fun j => (ofF T ((c : Int) + 1)).length - j) 0 (by rw [List.take_zero, List.append_nil]; exact ⟨rfl, (by repeat (first | exact LeT.nil | refine LeT.cons rfl ?_ | refine LeT.consw rfl (by (repeat (first | exact Wk.refl _ | exact Wk.nilr _ | exact Wk.nilm | apply Wk.aggc | apply Wk.tupc | exact Wk.aggn | exact Wk.tupn)); first | done | fail) ?_)), (by repeat (first | exact LeH.refl _ | exact LeH.nil _ | refine LeH.cons (by (fail_if_success (apply tkG)); (repeat (first | exact Tk.here | apply Tk.there)); first | done | fail) ?_ | refine LeH.boxw (by (fail_if_success (apply tkG)); (repeat (first | exact Tk.here | apply Tk.there)); first | done | fail) (by (repeat (first | exact Wk.refl _ | exact Wk.nilr _ | exact Wk.nilm | apply Wk.aggc | apply Wk.tupc | exact Wk.aggn | exact Wk.tupn)); first | done | fail) ?_ | refine LeH.skip ?_))⟩) (Nat.zero_le _) ?_
    intro j hj
    rcases Nat.lt_or_ge j (ofF T ((c : Int) + 1)).length with hjl | hjg
    · obtain ⟨x, hx⟩ : ∃ x, (ofF T ((c : Int) + 1))[j]? = some x := ⟨_, List.getElem?_eq_getElem hjl⟩
      have hxm : x ∈ ofF T ((c : Int) + 1) := List.mem_of_getElem? hx
      have hm2 := (mem_ofF ok).1 hxm
      obtain ⟨p, hp, hpe⟩ := List.mem_map.1 hm2.1
      have hrc := (mine_rc _ _).1 hm2.2
      have hq : x / 1048576 = (c : Int) + 1 := by
        have := hrc.2
        unfold rcF at this
        split at this <;> omega
      have hx0 := ok.el p hp
      rw [hpe] at hx0
      have hkx : kindF T x ≠ 0 := by rw [← hpe, ok.kind hp]; omega
      have hno : x ∉ parF T c ++ (ofF T ((c : Int) + 1)).take j := fun hm => by
        rcases List.mem_append.1 hm with hm | hm
        · exact no_parF ok hxm hm
        · have hnd := nd_ofF ok ((c : Int) + 1)
          rw [← List.take_append_drop j (ofF T ((c : Int) + 1)), List.nodup_append] at hnd
          exact hnd.2.2 x hm x (List.mem_of_getElem? (i := 0) (by rw [List.getElem?_drop]; exact hx)) rfl
      have hlk := lk_no hno
      have hpu := put_new hno
      have htk : (ofF T ((c : Int) + 1)).take (j + 1) = (ofF T ((c : Int) + 1)).take j ++ [x] := by rw [List.take_add_one, hx]; rfl
      (repeat' (first | (refine iS ?_; refine iZ ?_; refine S.nilq (fun b hq => ?_)) | refine sv1 ?_ | (refine iS ?_; first | (refine iT ?_; first | refine S.store_one ?_ | refine S.store_whole ?_ | refine S.store_elem ?_ | refine S.store_field ?_) | (refine iY ?_; refine S.copy ?_) | (refine iMd ?_; refine S.mapD ?_) | (refine iC ?_; first | refine S.append1 (fun u => ?_) | refine S.append (fun u => ?_) | refine S.append_nil (fun u => ?_)) | (refine iN ?_; first | refine S.build1 (fun u => ?_) | refine S.build2 (fun u => ?_) | refine S.build3 (fun u => ?_) | refine S.build0 (fun u => ?_)) | (refine iK ?_; refine S.make (fun u => ?_))) | (refine svg (fun hg => ?_) (fun hg => ?_) <;> try (exfalso; first | omega | contradiction)) | (refine svc (fun hc => ?_) (fun hc => ?_) <;> try (exfalso; first | omega | contradiction)) | refine sv2 ?_ | refine svh (fun hb => ?_) (fun hb => ?_) | refine svb (fun b => ?_) | refine sva ?_ | refine sv3 ?_))
      rw [hlk]
      (repeat' (first | (refine iS ?_; refine iZ ?_; refine S.nilq (fun b hq => ?_)) | refine sv1 ?_ | (refine iS ?_; first | (refine iT ?_; first | refine S.store_one ?_ | refine S.store_whole ?_ | refine S.store_elem ?_ | refine S.store_field ?_) | (refine iY ?_; refine S.copy ?_) | (refine iMd ?_; refine S.mapD ?_) | (refine iC ?_; first | refine S.append1 (fun u => ?_) | refine S.append (fun u => ?_) | refine S.append_nil (fun u => ?_)) | (refine iN ?_; first | refine S.build1 (fun u => ?_) | refine S.build2 (fun u => ?_) | refine S.build3 (fun u => ?_) | refine S.build0 (fun u => ?_)) | (refine iK ?_; refine S.make (fun u => ?_))) | (refine svg (fun hg => ?_) (fun hg => ?_) <;> try (exfalso; first | omega | contradiction)) | (refine svc (fun hc => ?_) (fun hc => ?_) <;> try (exfalso; first | omega | contradiction)) | refine sv2 ?_ | refine svh (fun hb => ?_) (fun hb => ?_) | refine svb (fun b => ?_) | refine sva ?_ | refine sv3 ?_))
      refine S.call ?_; refine (kind_c T x _).mono ?_; rintro r h' ⟨rfl, hh⟩; subst hh
      (repeat' (first | (refine iS ?_; refine iZ ?_; refine S.nilq (fun b hq => ?_)) | refine sv1 ?_ | (refine iS ?_; first | (refine iT ?_; first | refine S.store_one ?_ | refine S.store_whole ?_ | refine S.store_elem ?_ | refine S.store_field ?_) | (refine iY ?_; refine S.copy ?_) | (refine iMd ?_; refine S.mapD ?_) | (refine iC ?_; first | refine S.append1 (fun u => ?_) | refine S.append (fun u => ?_) | refine S.append_nil (fun u => ?_)) | (refine iN ?_; first | refine S.build1 (fun u => ?_) | refine S.build2 (fun u => ?_) | refine S.build3 (fun u => ?_) | refine S.build0 (fun u => ?_)) | (refine iK ?_; refine S.make (fun u => ?_))) | (refine svg (fun hg => ?_) (fun hg => ?_) <;> try (exfalso; first | omega | contradiction)) | (refine svc (fun hc => ?_) (fun hc => ?_) <;> try (exfalso; first | omega | contradiction)) | refine sv2 ?_ | refine svh (fun hb => ?_) (fun hb => ?_) | refine svb (fun b => ?_) | refine sva ?_ | refine sv3 ?_))
      refine S.mapU (a := true) ?_
      rw [hpu]
      (repeat' (first | (refine iS ?_; refine iZ ?_; refine S.nilq (fun b hq => ?_)) | refine sv1 ?_ | (refine iS ?_; first | (refine iT ?_; first | refine S.store_one ?_ | refine S.store_whole ?_ | refine S.store_elem ?_ | refine S.store_field ?_) | (refine iY ?_; refine S.copy ?_) | (refine iMd ?_; refine S.mapD ?_) | (refine iC ?_; first | refine S.append1 (fun u => ?_) | refine S.append (fun u => ?_) | refine S.append_nil (fun u => ?_)) | (refine iN ?_; first | refine S.build1 (fun u => ?_) | refine S.build2 (fun u => ?_) | refine S.build3 (fun u => ?_) | refine S.build0 (fun u => ?_)) | (refine iK ?_; refine S.make (fun u => ?_))) | (refine svg (fun hg => ?_) (fun hg => ?_) <;> try (exfalso; first | omega | contradiction)) | (refine svc (fun hc => ?_) (fun hc => ?_) <;> try (exfalso; first | omega | contradiction)) | refine sv2 ?_ | refine svh (fun hb => ?_) (fun hb => ?_) | refine svb (fun b => ?_) | refine sva ?_ | refine sv3 ?_))
      exact ⟨j + 1, hjl, by rw [htk, ← List.append_assoc]; exact ⟨rfl, (by repeat (first | exact LeT.nil | refine LeT.cons rfl ?_ | refine LeT.consw rfl (by (repeat (first | exact Wk.refl _ | exact Wk.nilr _ | exact Wk.nilm | apply Wk.aggc | apply Wk.tupc | exact Wk.aggn | exact Wk.tupn)); first | done | fail) ?_)), (by repeat (first | exact LeH.refl _ | exact LeH.nil _ | refine LeH.cons (by (fail_if_success (apply tkG)); (repeat (first | exact Tk.here | apply Tk.there)); first | done | fail) ?_ | refine LeH.boxw (by (fail_if_success (apply tkG)); (repeat (first | exact Tk.here | apply Tk.there)); first | done | fail) (by (repeat (first | exact Wk.refl _ | exact Wk.nilr _ | exact Wk.nilm | apply Wk.aggc | apply Wk.tupc | exact Wk.aggn | exact Wk.tupn)); first | done | fail) ?_ | refine LeH.skip ?_))⟩, by omega⟩
    · obtain rfl : j = (ofF T ((c : Int) + 1)).length := by omega
      have e : (parF T (c + 1)).length = (parF T c).length + (ofF T ((c : Int) + 1)).length := List.length_append
      have e2 : parF T (c + 1) = parF T c ++ ofF T ((c : Int) + 1) := rfl
      rw [List.take_length]
      (repeat' (first | (refine iS ?_; refine iZ ?_; refine S.nilq (fun b hq => ?_)) | refine sv1 ?_ | (refine iS ?_; first | (refine iT ?_; first | refine S.store_one ?_ | refine S.store_whole ?_ | refine S.store_elem ?_ | refine S.store_field ?_) | (refine iY ?_; refine S.copy ?_) | (refine iMd ?_; refine S.mapD ?_) | (refine iC ?_; first | refine S.append1 (fun u => ?_) | refine S.append (fun u => ?_) | refine S.append_nil (fun u => ?_)) | (refine iN ?_; first | refine S.build1 (fun u => ?_) | refine S.build2 (fun u => ?_) | refine S.build3 (fun u => ?_) | refine S.build0 (fun u => ?_)) | (refine iK ?_; refine S.make (fun u => ?_))) | (refine svg (fun hg => ?_) (fun hg => ?_) <;> try (exfalso; first | omega | contradiction)) | (refine svc (fun hc => ?_) (fun hc => ?_) <;> try (exfalso; first | omega | contradiction)) | refine sv2 ?_ | refine svh (fun hb => ?_) (fun hb => ?_) | refine svb (fun b => ?_) | refine sva ?_ | refine sv3 ?_))
      exact ⟨c + 1, hlt, by rw [e, e2]; exact ⟨rfl, (by repeat (first | exact LeT.nil | refine LeT.cons rfl ?_ | refine LeT.consw rfl (by (repeat (first | exact Wk.refl _ | exact Wk.nilr _ | exact Wk.nilm | apply Wk.aggc | apply Wk.tupc | exact Wk.aggn | exact Wk.tupn)); first | done | fail) ?_)), (by repeat (first | exact LeH.refl _ | exact LeH.nil _ | refine LeH.cons (by (fail_if_success (apply tkG)); (repeat (first | exact Tk.here | apply Tk.there)); first | done | fail) ?_ | refine LeH.boxw (by (fail_if_success (apply tkG)); (repeat (first | exact Tk.here | apply Tk.there)); first | done | fail) (by (repeat (first | exact Wk.refl _ | exact Wk.nilr _ | exact Wk.nilm | apply Wk.aggc | apply Wk.tupc | exact Wk.aggn | exact Wk.tupn)); first | done | fail) ?_ | refine LeH.skip ?_))⟩, by omega⟩
  obtain rfl : c = 8 := by omega
  rw [hn8]
  have hS : (srt (keysF T)).length = T.length := (srt_perm _).length_eq.trans (List.length_map _)
  have hpw : (srt (keysF T)).Pairwise (· < ·) := by
    have hnd : (srt (keysF T)).Nodup := (srt_perm _).nodup_iff.2 ok.nd
    exact ((srt_sorted (keysF T)).and hnd).imp fun {a b} q => by have := q.1; have := q.2; omega
  (repeat' (first | (refine iS ?_; refine iZ ?_; refine S.nilq (fun b hq => ?_)) | refine sv1 ?_ | (refine iS ?_; first | (refine iT ?_; first | refine S.store_one ?_ | refine S.store_whole ?_ | refine S.store_elem ?_ | refine S.store_field ?_) | (refine iY ?_; refine S.copy ?_) | (refine iMd ?_; refine S.mapD ?_) | (refine iC ?_; first | refine S.append1 (fun u => ?_) | refine S.append (fun u => ?_) | refine S.append_nil (fun u => ?_)) | (refine iN ?_; first | refine S.build1 (fun u => ?_) | refine S.build2 (fun u => ?_) | refine S.build3 (fun u => ?_) | refine S.build0 (fun u => ?_)) | (refine iK ?_; refine S.make (fun u => ?_))) | (refine svg (fun hg => ?_) (fun hg => ?_) <;> try (exfalso; first | omega | contradiction)) | (refine svc (fun hc => ?_) (fun hc => ?_) <;> try (exfalso; first | omega | contradiction)) | refine sv2 ?_ | refine svh (fun hb => ?_) (fun hb => ?_) | refine svb (fun b => ?_) | refine sva ?_ | refine sv3 ?_))
  refine S.call ?_; refine (all_c T _ (by omega)).mono ?_; rintro r h' ⟨rfl, hh⟩; subst hh
  (repeat' (first | (refine iS ?_; refine iZ ?_; refine S.nilq (fun b hq => ?_)) | refine sv1 ?_ | (refine iS ?_; first | (refine iT ?_; first | refine S.store_one ?_ | refine S.store_whole ?_ | refine S.store_elem ?_ | refine S.store_field ?_) | (refine iY ?_; refine S.copy ?_) | (refine iMd ?_; refine S.mapD ?_) | (refine iC ?_; first | refine S.append1 (fun u => ?_) | refine S.append (fun u => ?_) | refine S.append_nil (fun u => ?_)) | (refine iN ?_; first | refine S.build1 (fun u => ?_) | refine S.build2 (fun u => ?_) | refine S.build3 (fun u => ?_) | refine S.build0 (fun u => ?_)) | (refine iK ?_; refine S.make (fun u => ?_))) | (refine svg (fun hg => ?_) (fun hg => ?_) <;> try (exfalso; first | omega | contradiction)) | (refine svc (fun hc => ?_) (fun hc => ?_) <;> try (exfalso; first | omega | contradiction)) | refine sv2 ?_ | refine svh (fun hb => ?_) (fun hb => ?_) | refine svb (fun b => ?_) | refine sva ?_ | refine sv3 ?_))
  refine W.loop (J := fun x : Nat × Int => ⟨87, [(58, .val (.int .i64 (x.1 : Int))), (57, .val (.int .i64 ((srt (keysF T)).length : Nat))), (56, .ro 1 (ints .u32 (srt (keysF T)))), (10, .val (.int .u32 x.2)), (6, .val (.int .i64 (T.length : Nat))), (5, .val (.map (some b5))), (3, .val (.pointer (some ⟨b3, 0, none⟩))), (2, .val (.bool false))], mpV b5 .u32 vB (mT (parF T 8)) :: .box b3 (encT T).cells 24 :: h⟩)
    (Φ := fun x => x.1 ≤ (srt (keysF T)).length ∧ ∀ y ∈ (srt (keysF T)).drop x.1, x.2 < y) (μ := fun x => (srt (keysF T)).length - x.1) (0, 0) ⟨rfl, (by repeat (first | exact LeT.nil | refine LeT.cons rfl ?_ | refine LeT.consw rfl (by (repeat (first | exact Wk.refl _ | exact Wk.nilr _ | exact Wk.nilm | apply Wk.aggc | apply Wk.tupc | exact Wk.aggn | exact Wk.tupn)); first | done | fail) ?_)), (by repeat (first | exact LeH.refl _ | exact LeH.nil _ | refine LeH.cons (by (fail_if_success (apply tkG)); (repeat (first | exact Tk.here | apply Tk.there)); first | done | fail) ?_ | refine LeH.boxw (by (fail_if_success (apply tkG)); (repeat (first | exact Tk.here | apply Tk.there)); first | done | fail) (by (repeat (first | exact Wk.refl _ | exact Wk.nilr _ | exact Wk.nilm | apply Wk.aggc | apply Wk.tupc | exact Wk.aggn | exact Wk.tupn)); first | done | fail) ?_ | refine LeH.skip ?_))⟩ ⟨Nat.zero_le _, ?_⟩ ?_
  · intro y hy
    have hy2 : y ∈ keysF T := mem_srt.1 hy
    obtain ⟨p, hp, rfl⟩ := List.mem_map.1 hy2
    have := (ok.el p hp).2.2.2.2
    have h0 := (ok.el p hp).1
    dsimp only
    unfold rcF at this
    split at this <;> omega
  rintro ⟨j, last⟩ ⟨hj, hlast⟩
  dsimp only at hj hlast ⊢
  rcases Nat.lt_or_ge j (srt (keysF T)).length with hjl | hjg
  · obtain ⟨x, hx⟩ : ∃ x, (srt (keysF T))[j]? = some x := ⟨_, List.getElem?_eq_getElem hjl⟩
    have hd : (srt (keysF T)).drop j = x :: (srt (keysF T)).drop (j + 1) := by
      rw [List.drop_eq_getElem_cons hjl]
      rw [List.getElem?_eq_getElem hjl] at hx
      injection hx with hx
      rw [hx]
    have hlx : last < x := hlast x (by rw [hd]; exact .head _)
    have hnx : ∀ y ∈ (srt (keysF T)).drop (j + 1), x < y := by
      have := hpw.sublist (List.drop_sublist j _)
      rw [hd, List.pairwise_cons] at this
      exact this.1
    have hxm : x ∈ parF T 8 := (parF_perm ok).mem_iff.2 (mem_srt.1 (List.mem_of_getElem? hx))
    have hlk := lk_yes hxm
    (repeat' (first | (refine iS ?_; refine iZ ?_; refine S.nilq (fun b hq => ?_)) | refine sv1 ?_ | (refine iS ?_; first | (refine iT ?_; first | refine S.store_one ?_ | refine S.store_whole ?_ | refine S.store_elem ?_ | refine S.store_field ?_) | (refine iY ?_; refine S.copy ?_) | (refine iMd ?_; refine S.mapD ?_) | (refine iC ?_; first | refine S.append1 (fun u => ?_) | refine S.append (fun u => ?_) | refine S.append_nil (fun u => ?_)) | (refine iN ?_; first | refine S.build1 (fun u => ?_) | refine S.build2 (fun u => ?_) | refine S.build3 (fun u => ?_) | refine S.build0 (fun u => ?_)) | (refine iK ?_; refine S.make (fun u => ?_))) | (refine svg (fun hg => ?_) (fun hg => ?_) <;> try (exfalso; first | omega | contradiction)) | (refine svc (fun hc => ?_) (fun hc => ?_) <;> try (exfalso; first | omega | contradiction)) | refine sv2 ?_ | refine svh (fun hb => ?_) (fun hb => ?_) | refine svb (fun b => ?_) | refine sva ?_ | refine sv3 ?_))
    rw [hlk]
    (repeat' (first | (refine iS ?_; refine iZ ?_; refine S.nilq (fun b hq => ?_)) | refine sv1 ?_ | (refine iS ?_; first | (refine iT ?_; first | refine S.store_one ?_ | refine S.store_whole ?_ | refine S.store_elem ?_ | refine S.store_field ?_) | (refine iY ?_; refine S.copy ?_) | (refine iMd ?_; refine S.mapD ?_) | (refine iC ?_; first | refine S.append1 (fun u => ?_) | refine S.append (fun u => ?_) | refine S.append_nil (fun u => ?_)) | (refine iN ?_; first | refine S.build1 (fun u => ?_) | refine S.build2 (fun u => ?_) | refine S.build3 (fun u => ?_) | refine S.build0 (fun u => ?_)) | (refine iK ?_; refine S.make (fun u => ?_))) | (refine svg (fun hg => ?_) (fun hg => ?_) <;> try (exfalso; first | omega | contradiction)) | (refine svc (fun hc => ?_) (fun hc => ?_) <;> try (exfalso; first | omega | contradiction)) | refine sv2 ?_ | refine svh (fun hb => ?_) (fun hb => ?_) | refine svb (fun b => ?_) | refine sva ?_ | refine sv3 ?_))
    exact ⟨(j + 1, x), ⟨hjl, hnx⟩, ⟨rfl, (by repeat (first | exact LeT.nil | refine LeT.cons rfl ?_ | refine LeT.consw rfl (by (repeat (first | exact Wk.refl _ | exact Wk.nilr _ | exact Wk.nilm | apply Wk.aggc | apply Wk.tupc | exact Wk.aggn | exact Wk.tupn)); first | done | fail) ?_)), (by repeat (first | exact LeH.refl _ | exact LeH.nil _ | refine LeH.cons (by (fail_if_success (apply tkG)); (repeat (first | exact Tk.here | apply Tk.there)); first | done | fail) ?_ | refine LeH.boxw (by (fail_if_success (apply tkG)); (repeat (first | exact Tk.here | apply Tk.there)); first | done | fail) (by (repeat (first | exact Wk.refl _ | exact Wk.nilr _ | exact Wk.nilm | apply Wk.aggc | apply Wk.tupc | exact Wk.aggn | exact Wk.tupn)); first | done | fail) ?_ | refine LeH.skip ?_))⟩, by dsimp only; omega⟩
  (repeat' (first | (refine iS ?_; refine iZ ?_; refine S.nilq (fun b hq => ?_)) | refine sv1 ?_ | (refine iS ?_; first | (refine iT ?_; first | refine S.store_one ?_ | refine S.store_whole ?_ | refine S.store_elem ?_ | refine S.store_field ?_) | (refine iY ?_; refine S.copy ?_) | (refine iMd ?_; refine S.mapD ?_) | (refine iC ?_; first | refine S.append1 (fun u => ?_) | refine S.append (fun u => ?_) | refine S.append_nil (fun u => ?_)) | (refine iN ?_; first | refine S.build1 (fun u => ?_) | refine S.build2 (fun u => ?_) | refine S.build3 (fun u => ?_) | refine S.build0 (fun u => ?_)) | (refine iK ?_; refine S.make (fun u => ?_))) | (refine svg (fun hg => ?_) (fun hg => ?_) <;> try (exfalso; first | omega | contradiction)) | (refine svc (fun hc => ?_) (fun hc => ?_) <;> try (exfalso; first | omega | contradiction)) | refine sv2 ?_ | refine svh (fun hb => ?_) (fun hb => ?_) | refine svb (fun b => ?_) | refine sva ?_ | refine sv3 ?_))
  refine S.call ?_; refine (awake_c _).mono ?_; rintro r h' ⟨rfl, hh⟩; subst hh
  (repeat' (first | (refine iS ?_; refine iZ ?_; refine S.nilq (fun b hq => ?_)) | refine sv1 ?_ | (refine iS ?_; first | (refine iT ?_; first | refine S.store_one ?_ | refine S.store_whole ?_ | refine S.store_elem ?_ | refine S.store_field ?_) | (refine iY ?_; refine S.copy ?_) | (refine iMd ?_; refine S.mapD ?_) | (refine iC ?_; first | refine S.append1 (fun u => ?_) | refine S.append (fun u => ?_) | refine S.append_nil (fun u => ?_)) | (refine iN ?_; first | refine S.build1 (fun u => ?_) | refine S.build2 (fun u => ?_) | refine S.build3 (fun u => ?_) | refine S.build0 (fun u => ?_)) | (refine iK ?_; refine S.make (fun u => ?_))) | (refine svg (fun hg => ?_) (fun hg => ?_) <;> try (exfalso; first | omega | contradiction)) | (refine svc (fun hc => ?_) (fun hc => ?_) <;> try (exfalso; first | omega | contradiction)) | refine sv2 ?_ | refine svh (fun hb => ?_) (fun hb => ?_) | refine svb (fun b => ?_) | refine sva ?_ | refine sv3 ?_))
  refine S.call ?_; refine (len_c1 T _).mono ?_; rintro r h' ⟨rfl, hh⟩; subst hh
  (repeat' (first | (refine iS ?_; refine iZ ?_; refine S.nilq (fun b hq => ?_)) | refine sv1 ?_ | (refine iS ?_; first | (refine iT ?_; first | refine S.store_one ?_ | refine S.store_whole ?_ | refine S.store_elem ?_ | refine S.store_field ?_) | (refine iY ?_; refine S.copy ?_) | (refine iMd ?_; refine S.mapD ?_) | (refine iC ?_; first | refine S.append1 (fun u => ?_) | refine S.append (fun u => ?_) | refine S.append_nil (fun u => ?_)) | (refine iN ?_; first | refine S.build1 (fun u => ?_) | refine S.build2 (fun u => ?_) | refine S.build3 (fun u => ?_) | refine S.build0 (fun u => ?_)) | (refine iK ?_; refine S.make (fun u => ?_))) | (refine svg (fun hg => ?_) (fun hg => ?_) <;> try (exfalso; first | omega | contradiction)) | (refine svc (fun hc => ?_) (fun hc => ?_) <;> try (exfalso; first | omega | contradiction)) | refine sv2 ?_ | refine svh (fun hb => ?_) (fun hb => ?_) | refine svb (fun b => ?_) | refine sva ?_ | refine sv3 ?_))
  refine S.call ?_; refine (all_c T _ (by omega)).mono ?_; rintro r h' ⟨rfl, hh⟩; subst hh
  (repeat' (first | (refine iS ?_; refine iZ ?_; refine S.nilq (fun b hq => ?_)) | refine sv1 ?_ | (refine iS ?_; first | (refine iT ?_; first | refine S.store_one ?_ | refine S.store_whole ?_ | refine S.store_elem ?_ | refine S.store_field ?_) | (refine iY ?_; refine S.copy ?_) | (refine iMd ?_; refine S.mapD ?_) | (refine iC ?_; first | refine S.append1 (fun u => ?_) | refine S.append (fun u => ?_) | refine S.append_nil (fun u => ?_)) | (refine iN ?_; first | refine S.build1 (fun u => ?_) | refine S.build2 (fun u => ?_) | refine S.build3 (fun u => ?_) | refine S.build0 (fun u => ?_)) | (refine iK ?_; refine S.make (fun u => ?_))) | (refine svg (fun hg => ?_) (fun hg => ?_) <;> try (exfalso; first | omega | contradiction)) | (refine svc (fun hc => ?_) (fun hc => ?_) <;> try (exfalso; first | omega | contradiction)) | refine sv2 ?_ | refine svh (fun hb => ?_) (fun hb => ?_) | refine svb (fun b => ?_) | refine sva ?_ | refine sv3 ?_))
  refine fin_r (h' := _) ⟨?_, rfl⟩
  rw [hS]; simp [tupA]
theorem parts_row : ∀ l, FitAll maxLen [.sl 4 (.fld 1 (.bool) (.fld 1 (.int .i64) (.fld 1 (.int .u32) (.fld 1 (.int .i64) (.nil)))))] l →
    ACalls Try.prog 5 l [] (fun r h' => r = .val (.bool true)) := by
  rintro l ⟨x, _, rfl, hx, rfl⟩
  obtain ⟨acs, rfl, hl, has⟩ := fit_sl (f := AC.enc) hx (fun y hy => ac_ok hy)
  exact (parts_c acs [] (Nat.le_trans hl (by decide)) has).mono fun r h' h => h.1
end Go.Proofs.Ytmhncankbgjmbaa
