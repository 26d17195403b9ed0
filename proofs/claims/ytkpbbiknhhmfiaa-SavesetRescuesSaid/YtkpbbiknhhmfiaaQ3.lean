/- saveset.Set: Of, Drop, Change. No condition. -/
import Derived.Test.YtkpbbiknhhmfiaaQ2
namespace Go.Proofs.Ytkpbbiknhhmfiaa
open Go Go.VM
attribute [local irreducible] PurV Pur Step RL W D ACalls Then InBlock Fini
set_option linter.unusedVariables false
set_option linter.unusedSimpArgs false
set_option maxHeartbeats 20000000
def ofS (t : SVT) (c : Int) : List Int := (lkF t c).getD []
theorem lkw_ids (o : Option (List Int)) : Wk (lkV vIds (.val (.slice none 0 0)) o) (.ro 1 (ints .u32 (o.getD []))) := lkw_ints .u32 o
set_option maxRecDepth 100000 in
theorem ofs_c (t : SVT) (c : Int) (h : Heap) (hl : (ofS t c).length ≤ 1000000) : ACalls Try.prog 18 [encS t, .val (.int .i64 (c))] h (fun r h' => r = .ro 1 (ints .u32 (ofS t c)) ∧ h' = h) := by
  have cl := fun h => clone_c (ofS t c) h (by omega)
  unfold encS
  refine ACalls.intro Try.func18 rfl Try.ntmps18 Try.results18 (Nat.le_of_ble_eq_true rfl) ?_
  (repeat' (first | (refine iS ?_; refine iMu ?_; refine S.mapU ?_) | refine svz ⟨fun b hq => ?_⟩ | refine sv1 ?_ | refine svs ⟨?_⟩ | refine svu ⟨fun u => ?_⟩ | (refine svg (fun hg => ?_) (fun hg => ?_) <;> try (exfalso; first | omega | contradiction)) | (refine svc (fun hc => ?_) (fun hc => ?_) <;> try (exfalso; first | omega | contradiction)) | refine sv2 ?_ | refine svh (fun hb => ?_) (fun hb => ?_) | refine svb (fun b => ?_) | refine sva ?_ | refine sv3 ?_))
  refine S.call ?_; refine (cl _).mono ?_; rintro r h' ⟨rfl, hh⟩; subst hh
  (repeat' (first | (refine iS ?_; refine iMu ?_; refine S.mapU ?_) | refine svz ⟨fun b hq => ?_⟩ | refine sv1 ?_ | refine svs ⟨?_⟩ | refine svu ⟨fun u => ?_⟩ | (refine svg (fun hg => ?_) (fun hg => ?_) <;> try (exfalso; first | omega | contradiction)) | (refine svc (fun hc => ?_) (fun hc => ?_) <;> try (exfalso; first | omega | contradiction)) | refine sv2 ?_ | refine svh (fun hb => ?_) (fun hb => ?_) | refine svb (fun b => ?_) | refine sva ?_ | refine sv3 ?_))
  exact fin_r (h' := _) ⟨rfl, rfl⟩
set_option maxRecDepth 100000 in
theorem change1_c (b5 b6 : Nat) (c0 id0 c id : Int) (h : Heap) (m5 : OE.box b5 [.val (.int .i64 (c0))] 3 ∈ h) (m6 : OE.box b6 [.val (.int .u32 (id0))] 43 ∈ h) : ACalls Try.prog 37 ([.val (.int .i64 (c)), .val (.int .u32 (id))] ++ [.val (.pointer (some ⟨b5, 0, none⟩)), .val (.pointer (some ⟨b6, 0, none⟩))]) h (fun r h' => r = .val (.bool (decide (c = c0) && decide (id = id0))) ∧ h' = h) := by
  simp only [List.cons_append, List.nil_append]
  refine ACalls.intro Try.func37 rfl Try.ntmps37 Try.results37 (Nat.le_of_ble_eq_true rfl) ?_
  (repeat' (first | (refine iS ?_; refine iMu ?_; refine S.mapU ?_) | refine svz ⟨fun b hq => ?_⟩ | refine sv1 ?_ | refine svs ⟨?_⟩ | refine svu ⟨fun u => ?_⟩ | (refine svg (fun hg => ?_) (fun hg => ?_) <;> try (exfalso; first | omega | contradiction)) | (refine svc (fun hc => ?_) (fun hc => ?_) <;> try (exfalso; first | omega | contradiction)) | refine sv2 ?_ | refine svh (fun hb => ?_) (fun hb => ?_) | refine svb (fun b => ?_) | refine sva ?_ | refine sv3 ?_))
  · rename_i hc
    rw [decide_eq_true hc]
    refine fin_r (h' := h) ⟨?_, rfl⟩; rfl
  · rename_i hc
    rw [decide_eq_false hc]
    refine fin_r (h' := h) ⟨?_, rfl⟩; rfl
set_option maxRecDepth 100000 in
theorem drop1_c (b5 b6 : Nat) (c0 : Int) (ids : List Int) (c id : Int) (h : Heap) (m5 : OE.box b5 [.val (.int .i64 (c0))] 3 ∈ h) (m6 : OE.box b6 [.ro 1 (ints .u32 (ids))] 36 ∈ h) : ACalls Try.prog 40 ([.val (.int .i64 (c)), .val (.int .u32 (id))] ++ [.val (.pointer (some ⟨b5, 0, none⟩)), .val (.pointer (some ⟨b6, 0, none⟩))]) h (fun r h' => r = .val (.bool (decide (c = c0) || decide (id ∈ ids))) ∧ h' = h) := by
  have ct := fun h => contains_c ids id h
  simp only [List.cons_append, List.nil_append]
  refine ACalls.intro Try.func40 rfl Try.ntmps40 Try.results40 (Nat.le_of_ble_eq_true rfl) ?_
  by_cases hc : c = c0
  · rw [decide_eq_true hc]
    (repeat' (first | (refine iS ?_; refine iMu ?_; refine S.mapU ?_) | refine svz ⟨fun b hq => ?_⟩ | refine sv1 ?_ | refine svs ⟨?_⟩ | refine svu ⟨fun u => ?_⟩ | (refine svg (fun hg => ?_) (fun hg => ?_) <;> try (exfalso; first | omega | contradiction)) | (refine svc (fun hc => ?_) (fun hc => ?_) <;> try (exfalso; first | omega | contradiction)) | refine sv2 ?_ | refine svh (fun hb => ?_) (fun hb => ?_) | refine svb (fun b => ?_) | refine sva ?_ | refine sv3 ?_))
    refine fin_r (h' := h) ⟨?_, rfl⟩; rfl
  · rw [decide_eq_false hc]
    (repeat' (first | (refine iS ?_; refine iMu ?_; refine S.mapU ?_) | refine svz ⟨fun b hq => ?_⟩ | refine sv1 ?_ | refine svs ⟨?_⟩ | refine svu ⟨fun u => ?_⟩ | (refine svg (fun hg => ?_) (fun hg => ?_) <;> try (exfalso; first | omega | contradiction)) | (refine svc (fun hc => ?_) (fun hc => ?_) <;> try (exfalso; first | omega | contradiction)) | refine sv2 ?_ | refine svh (fun hb => ?_) (fun hb => ?_) | refine svb (fun b => ?_) | refine sva ?_ | refine sv3 ?_))
    refine S.call ?_; refine (ct _).mono ?_; rintro r h' ⟨rfl, hh⟩; subst hh
    (repeat' (first | (refine iS ?_; refine iMu ?_; refine S.mapU ?_) | refine svz ⟨fun b hq => ?_⟩ | refine sv1 ?_ | refine svs ⟨?_⟩ | refine svu ⟨fun u => ?_⟩ | (refine svg (fun hg => ?_) (fun hg => ?_) <;> try (exfalso; first | omega | contradiction)) | (refine svc (fun hc => ?_) (fun hc => ?_) <;> try (exfalso; first | omega | contradiction)) | refine sv2 ?_ | refine svh (fun hb => ?_) (fun hb => ?_) | refine svb (fun b => ?_) | refine sva ?_ | refine sv3 ?_))
    refine fin_r (h' := _) ⟨?_, rfl⟩; rfl
theorem copF_nodup {g : Int → Int → Bool} : ∀ {t : SVT}, (t.map (·.1)).Nodup → ((copF g t).map (·.1)).Nodup
  | [], _ => by simp [copF]
  | p :: t, h => by
    rw [List.map_cons, List.nodup_cons] at h
    have ih := copF_nodup (g := g) h.2
    unfold copF at *
    rw [List.filterMap_cons]
    split
    · exact ih
    · rename_i q hq
      split at hq
      · cases hq
      · injection hq with hq
        subst hq
        rw [List.map_cons, List.nodup_cons]
        exact ⟨fun hm => h.1 (copF_keys (g := g) hm), ih⟩
def dropS (t : SVT) (c : Int) (ids : List Int) : SVT := copF (fun a b => decide (a = c) || decide (b ∈ ids)) t
set_option maxRecDepth 100000 in
theorem drop_c (t : SVT) (c : Int) (ids : List Int) (h : Heap) (hn : (t.map (·.1)).Nodup) (hl : ∀ p ∈ t, p.2.length ≤ 1000000) (htl : t.length ≤ 1000000) :
    ACalls Try.prog 19 [encS t, .val (.int .i64 (c)), .ro 1 (ints .u32 (ids))] h (fun r h' => r = encS (dropS t c ids) ∧ h' = h) := by
  have cp := copied_c t 40
  unfold encS at *
  refine ACalls.intro Try.func19 rfl Try.ntmps19 Try.results19 (Nat.le_of_ble_eq_true rfl) ?_
  (repeat' (first | (refine iS ?_; refine iMu ?_; refine S.mapU ?_) | refine svz ⟨fun b hq => ?_⟩ | refine sv1 ?_ | refine svs ⟨?_⟩ | refine svu ⟨fun u => ?_⟩ | (refine svg (fun hg => ?_) (fun hg => ?_) <;> try (exfalso; first | omega | contradiction)) | (refine svc (fun hc => ?_) (fun hc => ?_) <;> try (exfalso; first | omega | contradiction)) | refine sv2 ?_ | refine svh (fun hb => ?_) (fun hb => ?_) | refine svb (fun b => ?_) | refine sva ?_ | refine sv3 ?_))
  rename_i b3 b4 b5
  revert b; intro b6
  refine S.call ?_
  refine (cp [.val (.pointer (some ⟨b4, 0, none⟩)), .val (.pointer (some ⟨b5, 0, none⟩))] (fun a b => decide (a = c) || decide (b ∈ ids)) _ hn hl htl (fun X a b => drop1_c b4 b5 c ids a b _ (List.mem_append_right X (by (fail_if_success (apply memG)); repeat (first | exact List.Mem.head _ | assumption | refine List.Mem.tail _ ?_))) (List.mem_append_right X (by (fail_if_success (apply memG)); repeat (first | exact List.Mem.head _ | assumption | refine List.Mem.tail _ ?_))))).mono ?_
  rintro r h' ⟨bm, rfl, hh⟩
  subst hh
  refine RL.frzm (by (fail_if_success (apply tkG)); (repeat (first | exact Tk.here | apply Tk.there)); first | done | fail) (by repeat' (first | apply FzT.cons | exact FzT.rest _ | exact Fz.hit | apply Fz.aggc | apply Fz.tupc | exact Fz.aggn | exact Fz.tupn | exact Fz.keep _)) (by repeat' (first | apply FzH.box | apply FzH.keep | exact FzH.rest _ | exact Fz.hit | apply Fz.aggc | apply Fz.tupc | exact Fz.aggn | exact Fz.tupn | exact Fz.keep _)) ?_
  (repeat' (first | (refine iS ?_; refine iMu ?_; refine S.mapU ?_) | refine svz ⟨fun b hq => ?_⟩ | refine sv1 ?_ | refine svs ⟨?_⟩ | refine svu ⟨fun u => ?_⟩ | (refine svg (fun hg => ?_) (fun hg => ?_) <;> try (exfalso; first | omega | contradiction)) | (refine svc (fun hc => ?_) (fun hc => ?_) <;> try (exfalso; first | omega | contradiction)) | refine sv2 ?_ | refine svh (fun hb => ?_) (fun hb => ?_) | refine svb (fun b => ?_) | refine sva ?_ | refine sv3 ?_))
  exact fin_r (h' := h) ⟨rfl, rfl⟩
theorem copF_len {g : Int → Int → Bool} {t : SVT} {n : Nat} (h : ∀ p ∈ t, p.2.length ≤ n) : ∀ p ∈ copF g t, p.2.length ≤ n := fun p hp => by
  obtain ⟨q, hq, e⟩ := List.mem_filterMap.1 hp
  split at e
  · cases e
  · injection e with e
    subst e
    exact Nat.le_trans (List.length_filter_le _ _) (h q hq)
theorem ofs_len {t : SVT} {n : Nat} (h : ∀ p ∈ t, p.2.length ≤ n) (c : Int) : (ofS t c).length ≤ n := by
  unfold ofS
  cases e : lkF t c with
  | none => exact Nat.zero_le _
  | some l => exact h (c, l) (lkF_some e)
def gOne (c id a b : Int) : Bool := decide (a = c) && decide (b = id)
def chF (t : SVT) (c id : Int) (add : Bool) : SVT × Int :=
  if schF c id ≠ 0 then (t, schF c id) else if add = false then (copF (gOne c id) t, 0) else
  if 64 ≤ (ofS (copF (gOne c id) t) c).length then (t, 5) else (putF (copF (gOne c id) t) c (srt (ofS (copF (gOne c id) t) c ++ [id])), 0)
set_option maxRecDepth 100000 in
theorem change_c (t : SVT) (c id : Int) (add : Bool) (h : Heap) (h0 : 0 ≤ id) (h1 : id ≤ 4294967295) (hn : (t.map (·.1)).Nodup) (hl : ∀ p ∈ t, p.2.length ≤ 1000000) (htl : t.length ≤ 1000000) :
    ACalls Try.prog 17 [encS t, .val (.int .i64 (c)), .val (.int .u32 (id)), .val (.bool add)] h (fun r h' => r = .tup [encS (chF t c id add).1, .val (.int .i64 ((chF t c id add).2))] ∧ h' = h) := by
  have ck := fun h => check_c c id h h0 h1
  have cp := copied_c t 37
  by_cases hk : schF c id ≠ 0
  · rw [show chF t c id add = (t, schF c id) by unfold chF; rw [if_pos hk]]
    generalize schF c id = k at *
    unfold encS at *
    refine ACalls.intro Try.func17 rfl Try.ntmps17 Try.results17 (Nat.le_of_ble_eq_true rfl) ?_
    (repeat' (first | (refine iS ?_; refine iMu ?_; refine S.mapU ?_) | refine svz ⟨fun b hq => ?_⟩ | refine sv1 ?_ | refine svs ⟨?_⟩ | refine svu ⟨fun u => ?_⟩ | (refine svg (fun hg => ?_) (fun hg => ?_) <;> try (exfalso; first | omega | contradiction)) | (refine svc (fun hc => ?_) (fun hc => ?_) <;> try (exfalso; first | omega | contradiction)) | refine sv2 ?_ | refine svh (fun hb => ?_) (fun hb => ?_) | refine svb (fun b => ?_) | refine sva ?_ | refine sv3 ?_))
    refine S.call ?_; refine (ck _).mono ?_; rintro r h' ⟨rfl, hh⟩; subst hh
    (repeat' (first | (refine iS ?_; refine iMu ?_; refine S.mapU ?_) | refine svz ⟨fun b hq => ?_⟩ | refine sv1 ?_ | refine svs ⟨?_⟩ | refine svu ⟨fun u => ?_⟩ | (refine svg (fun hg => ?_) (fun hg => ?_) <;> try (exfalso; first | omega | contradiction)) | (refine svc (fun hc => ?_) (fun hc => ?_) <;> try (exfalso; first | omega | contradiction)) | refine sv2 ?_ | refine svh (fun hb => ?_) (fun hb => ?_) | refine svb (fun b => ?_) | refine sva ?_ | refine sv3 ?_))
    exact fin_r (h' := h) ⟨rfl, rfl⟩
  have hk0 : schF c id = 0 := by omega
  rw [hk0] at ck
  cases add with
  | false =>
    rw [show chF t c id false = (copF (gOne c id) t, 0) by unfold chF; rw [if_neg hk, if_pos rfl]]
    unfold encS at *
    refine ACalls.intro Try.func17 rfl Try.ntmps17 Try.results17 (Nat.le_of_ble_eq_true rfl) ?_
    (repeat' (first | (refine iS ?_; refine iMu ?_; refine S.mapU ?_) | refine svz ⟨fun b hq => ?_⟩ | refine sv1 ?_ | refine svs ⟨?_⟩ | refine svu ⟨fun u => ?_⟩ | (refine svg (fun hg => ?_) (fun hg => ?_) <;> try (exfalso; first | omega | contradiction)) | (refine svc (fun hc => ?_) (fun hc => ?_) <;> try (exfalso; first | omega | contradiction)) | refine sv2 ?_ | refine svh (fun hb => ?_) (fun hb => ?_) | refine svb (fun b => ?_) | refine sva ?_ | refine sv3 ?_))
    rename_i b4 b5 b6
    revert b; intro b8
    refine S.call ?_; refine (ck _).mono ?_; rintro r h' ⟨rfl, hh⟩; subst hh
    (repeat' (first | (refine iS ?_; refine iMu ?_; refine S.mapU ?_) | refine svz ⟨fun b hq => ?_⟩ | refine sv1 ?_ | refine svs ⟨?_⟩ | refine svu ⟨fun u => ?_⟩ | (refine svg (fun hg => ?_) (fun hg => ?_) <;> try (exfalso; first | omega | contradiction)) | (refine svc (fun hc => ?_) (fun hc => ?_) <;> try (exfalso; first | omega | contradiction)) | refine sv2 ?_ | refine svh (fun hb => ?_) (fun hb => ?_) | refine svb (fun b => ?_) | refine sva ?_ | refine sv3 ?_))
    refine S.call ?_
    refine (cp [.val (.pointer (some ⟨b5, 0, none⟩)), .val (.pointer (some ⟨b6, 0, none⟩))] (gOne c id) _ hn hl htl (fun X a b => change1_c b5 b6 c id a b _ (List.mem_append_right X (by (fail_if_success (apply memG)); repeat (first | exact List.Mem.head _ | assumption | refine List.Mem.tail _ ?_))) (List.mem_append_right X (by (fail_if_success (apply memG)); repeat (first | exact List.Mem.head _ | assumption | refine List.Mem.tail _ ?_))))).mono ?_
    rintro r h' ⟨bm, rfl, hh⟩
    subst hh
    refine RL.frzm (by (fail_if_success (apply tkG)); (repeat (first | exact Tk.here | apply Tk.there)); first | done | fail) (by repeat' (first | apply FzT.cons | exact FzT.rest _ | exact Fz.hit | apply Fz.aggc | apply Fz.tupc | exact Fz.aggn | exact Fz.tupn | exact Fz.keep _)) (by repeat' (first | apply FzH.box | apply FzH.keep | exact FzH.rest _ | exact Fz.hit | apply Fz.aggc | apply Fz.tupc | exact Fz.aggn | exact Fz.tupn | exact Fz.keep _)) ?_
    (repeat' (first | (refine iS ?_; refine iMu ?_; refine S.mapU ?_) | refine svz ⟨fun b hq => ?_⟩ | refine sv1 ?_ | refine svs ⟨?_⟩ | refine svu ⟨fun u => ?_⟩ | (refine svg (fun hg => ?_) (fun hg => ?_) <;> try (exfalso; first | omega | contradiction)) | (refine svc (fun hc => ?_) (fun hc => ?_) <;> try (exfalso; first | omega | contradiction)) | refine sv2 ?_ | refine svh (fun hb => ?_) (fun hb => ?_) | refine svb (fun b => ?_) | refine sva ?_ | refine sv3 ?_))
    exact fin_r (h' := h) ⟨rfl, rfl⟩
  | true =>
    have e : chF t c id true = if 64 ≤ (ofS (copF (gOne c id) t) c).length then (t, 5) else (putF (copF (gOne c id) t) c (srt (ofS (copF (gOne c id) t) c ++ [id])), 0) := by unfold chF; rw [if_neg hk, if_neg (by decide)]
    rw [e]
    clear e
    have hofl : (ofS (copF (gOne c id) t) c).length ≤ 1000000 := ofs_len (copF_len hl) c
    have hnd := copF_nodup (g := gOne c id) hn
    unfold encS at *
    refine ACalls.intro Try.func17 rfl Try.ntmps17 Try.results17 (Nat.le_of_ble_eq_true rfl) ?_
    (repeat' (first | (refine iS ?_; refine iMu ?_; refine S.mapU ?_) | refine svz ⟨fun b hq => ?_⟩ | refine sv1 ?_ | refine svs ⟨?_⟩ | refine svu ⟨fun u => ?_⟩ | (refine svg (fun hg => ?_) (fun hg => ?_) <;> try (exfalso; first | omega | contradiction)) | (refine svc (fun hc => ?_) (fun hc => ?_) <;> try (exfalso; first | omega | contradiction)) | refine sv2 ?_ | refine svh (fun hb => ?_) (fun hb => ?_) | refine svb (fun b => ?_) | refine sva ?_ | refine sv3 ?_))
    rename_i b4 b5 b6
    revert b; intro b8
    refine S.call ?_; refine (ck _).mono ?_; rintro r h' ⟨rfl, hh⟩; subst hh
    (repeat' (first | (refine iS ?_; refine iMu ?_; refine S.mapU ?_) | refine svz ⟨fun b hq => ?_⟩ | refine sv1 ?_ | refine svs ⟨?_⟩ | refine svu ⟨fun u => ?_⟩ | (refine svg (fun hg => ?_) (fun hg => ?_) <;> try (exfalso; first | omega | contradiction)) | (refine svc (fun hc => ?_) (fun hc => ?_) <;> try (exfalso; first | omega | contradiction)) | refine sv2 ?_ | refine svh (fun hb => ?_) (fun hb => ?_) | refine svb (fun b => ?_) | refine sva ?_ | refine sv3 ?_))
    refine S.call ?_
    refine (cp [.val (.pointer (some ⟨b5, 0, none⟩)), .val (.pointer (some ⟨b6, 0, none⟩))] (gOne c id) _ hn hl htl (fun X a b => change1_c b5 b6 c id a b _ (List.mem_append_right X (by (fail_if_success (apply memG)); repeat (first | exact List.Mem.head _ | assumption | refine List.Mem.tail _ ?_))) (List.mem_append_right X (by (fail_if_success (apply memG)); repeat (first | exact List.Mem.head _ | assumption | refine List.Mem.tail _ ?_))))).mono ?_
    rintro r h' ⟨bm, rfl, hh⟩
    subst hh
    generalize copF (gOne c id) t = t1 at *
    have cl := fun h => clone_c0 (ofS t1 c) h (by omega)
    unfold ofS at *
    by_cases h64 : 64 ≤ ((lkF t1 c).getD []).length
    · rw [if_pos h64]
      (repeat' (first | (refine iS ?_; refine iMu ?_; refine S.mapU ?_) | refine svz ⟨fun b hq => ?_⟩ | refine sv1 ?_ | refine svs ⟨?_⟩ | refine svu ⟨fun u => ?_⟩ | (refine svg (fun hg => ?_) (fun hg => ?_) <;> try (exfalso; first | omega | contradiction)) | (refine svc (fun hc => ?_) (fun hc => ?_) <;> try (exfalso; first | omega | contradiction)) | refine sv2 ?_ | refine svh (fun hb => ?_) (fun hb => ?_) | refine svb (fun b => ?_) | refine sva ?_ | refine sv3 ?_))
      exact fin_r (h' := h) ⟨rfl, rfl⟩
    · rw [if_neg h64]
      (repeat' (first | (refine iS ?_; refine iMu ?_; refine S.mapU ?_) | refine svz ⟨fun b hq => ?_⟩ | refine sv1 ?_ | refine svs ⟨?_⟩ | refine svu ⟨fun u => ?_⟩ | (refine svg (fun hg => ?_) (fun hg => ?_) <;> try (exfalso; first | omega | contradiction)) | (refine svc (fun hc => ?_) (fun hc => ?_) <;> try (exfalso; first | omega | contradiction)) | refine sv2 ?_ | refine svh (fun hb => ?_) (fun hb => ?_) | refine svb (fun b => ?_) | refine sva ?_ | refine sv3 ?_))
      revert b; intro b11
      refine R2.later ?_
      (repeat' (first | (refine iR2 ?_; refine r2b ?_; refine R2.one ?_) | (refine iS ?_; refine iN ?_; refine S.build1r ?_) | (refine iS ?_; refine iMu ?_; refine S.mapU ?_) | refine svz ⟨fun b hq => ?_⟩ | refine sv1 ?_ | refine svs ⟨?_⟩ | refine svu ⟨fun u => ?_⟩ | (refine svg (fun hg => ?_) (fun hg => ?_) <;> try (exfalso; first | omega | contradiction)) | (refine svc (fun hc => ?_) (fun hc => ?_) <;> try (exfalso; first | omega | contradiction)) | refine sv2 ?_ | refine svh (fun hb => ?_) (fun hb => ?_) | refine svb (fun b => ?_) | refine sva ?_ | refine sv3 ?_))
      refine R2.back ?_
      refine R2.B ?_
      refine S.call ?_
      refine (cl _).mono ?_
      rintro r h' (⟨rfl, hnil, hh⟩ | ⟨v, rfl, hh⟩)
      · subst hh
        refine kd ?_
        (repeat' (first | (refine iS ?_; refine iMu ?_; refine S.mapU ?_) | refine svz ⟨fun b hq => ?_⟩ | refine sv1 ?_ | refine svs ⟨?_⟩ | refine svu ⟨fun u => ?_⟩ | (refine svg (fun hg => ?_) (fun hg => ?_) <;> try (exfalso; first | omega | contradiction)) | (refine svc (fun hc => ?_) (fun hc => ?_) <;> try (exfalso; first | omega | contradiction)) | refine sv2 ?_ | refine svh (fun hb => ?_) (fun hb => ?_) | refine svb (fun b => ?_) | refine sva ?_ | refine sv3 ?_))
        rw [hnil]
        refine Step.le (s' := ⟨46, [(39, .val u), (12, .val u), (11, .val (.pointer (some ⟨b11, 0, none⟩))), (9, .val (.int .i64 (0))), (8, .val (.pointer (some ⟨b8, 0, none⟩))), (5, .val (.pointer (some ⟨b5, 0, none⟩)))], .own u 1 (ints .u32 ([] ++ [id])) 43 :: .box b11 [.val (.map (some bm))] 34 :: mpV bm .i64 vIds t1 :: .box b8 [.val (.map none)] 34 :: .box b5 [.val (.int .i64 (c))] 3 :: h'⟩) ⟨rfl, (by repeat (first | exact LeT.nil | refine LeT.cons rfl ?_ | refine LeT.consw rfl (by (repeat (first | exact Wk.refl _ | exact Wk.nilr _ | exact Wk.nilm | apply Wk.aggc | apply Wk.tupc | exact Wk.aggn | exact Wk.tupn)); first | done | fail) ?_)), (by repeat (first | exact LeH.refl _ | exact LeH.nil _ | refine LeH.cons (by (fail_if_success (apply tkG)); (repeat (first | exact Tk.here | apply Tk.there)); first | done | fail) ?_ | refine LeH.boxw (by (fail_if_success (apply tkG)); (repeat (first | exact Tk.here | apply Tk.there)); first | done | fail) (by (repeat (first | exact Wk.refl _ | exact Wk.nilr _ | exact Wk.nilm | apply Wk.aggc | apply Wk.tupc | exact Wk.aggn | exact Wk.tupn)); first | done | fail) ?_ | refine LeH.skip ?_))⟩ ?_
        refine S.call ?_; refine (sort_c ([] ++ [id]) u _ (by simp; try omega)).mono ?_; rintro r h' ⟨rfl, hh⟩; subst hh; generalize srt ([] ++ [id]) = M at *; refine RL.frz (v := u) (by (fail_if_success (apply tkG)); (repeat (first | exact Tk.here | apply Tk.there)); first | done | fail) (by repeat' (first | apply FrzT.cons | exact FrzT.rest _ | exact Frz.hit | apply Frz.aggc | apply Frz.tupc | exact Frz.aggn | exact Frz.tupn | exact Frz.keep _)) (by repeat' (first | apply FrzH.box | apply FrzH.keep | exact FrzH.rest _ | exact Frz.hit | apply Frz.aggc | apply Frz.tupc | exact Frz.aggn | exact Frz.tupn | exact Frz.keep _)) ?_; (repeat' (first | refine svz ⟨fun b hq => ?_⟩ | refine sv1 ?_ | refine svs ⟨?_⟩ | refine svu ⟨fun u => ?_⟩ | (refine svg (fun hg => ?_) (fun hg => ?_) <;> try (exfalso; first | omega | contradiction)) | (refine svc (fun hc => ?_) (fun hc => ?_) <;> try (exfalso; first | omega | contradiction)) | refine sv2 ?_ | refine svh (fun hb => ?_) (fun hb => ?_) | refine svb (fun b => ?_) | refine sva ?_ | refine sv3 ?_)); refine S.mapU (f := vIds) (a := M) ?_; refine RL.nil ?_; generalize putF t1 c M = t2 at *; refine W.frzm (by (fail_if_success (apply tkG)); (repeat (first | exact Tk.here | apply Tk.there)); first | done | fail) (by repeat' (first | apply FzT.cons | exact FzT.rest _ | exact Fz.hit | apply Fz.aggc | apply Fz.tupc | exact Fz.aggn | exact Fz.tupn | exact Fz.keep _)) (by repeat' (first | apply FzH.box | apply FzH.keep | exact FzH.rest _ | exact Fz.hit | apply Fz.aggc | apply Fz.tupc | exact Fz.aggn | exact Fz.tupn | exact Fz.keep _)) ?_; (repeat' (first | (refine iS ?_; refine iMu ?_; refine S.mapU ?_) | refine svz ⟨fun b hq => ?_⟩ | refine sv1 ?_ | refine svs ⟨?_⟩ | refine svu ⟨fun u => ?_⟩ | (refine svg (fun hg => ?_) (fun hg => ?_) <;> try (exfalso; first | omega | contradiction)) | (refine svc (fun hc => ?_) (fun hc => ?_) <;> try (exfalso; first | omega | contradiction)) | refine sv2 ?_ | refine svh (fun hb => ?_) (fun hb => ?_) | refine svb (fun b => ?_) | refine sva ?_ | refine sv3 ?_)); exact fin_r (h' := h') ⟨rfl, rfl⟩
      · subst hh
        refine kd ?_
        (repeat' (first | (refine iS ?_; refine iMu ?_; refine S.mapU ?_) | refine svz ⟨fun b hq => ?_⟩ | refine sv1 ?_ | refine svs ⟨?_⟩ | refine svu ⟨fun u => ?_⟩ | (refine svg (fun hg => ?_) (fun hg => ?_) <;> try (exfalso; first | omega | contradiction)) | (refine svc (fun hc => ?_) (fun hc => ?_) <;> try (exfalso; first | omega | contradiction)) | refine sv2 ?_ | refine svh (fun hb => ?_) (fun hb => ?_) | refine svb (fun b => ?_) | refine sva ?_ | refine sv3 ?_))
        refine Step.le (s' := ⟨46, [(39, .val u), (12, .val u), (11, .val (.pointer (some ⟨b11, 0, none⟩))), (9, .val (.int .i64 (0))), (8, .val (.pointer (some ⟨b8, 0, none⟩))), (5, .val (.pointer (some ⟨b5, 0, none⟩)))], .own u 1 (ints .u32 ((lkF t1 c).getD [] ++ [id])) 43 :: .box b11 [.val (.map (some bm))] 34 :: mpV bm .i64 vIds t1 :: .box b8 [.val (.map none)] 34 :: .box b5 [.val (.int .i64 (c))] 3 :: h⟩) (by rw [show ints .u32 ((lkF t1 c).getD [] ++ [id]) = ints .u32 ((lkF t1 c).getD []) ++ [.val (.int .u32 id)] by simp [ints]]; exact ⟨rfl, (by repeat (first | exact LeT.nil | refine LeT.cons rfl ?_ | refine LeT.consw rfl (by (repeat (first | exact Wk.refl _ | exact Wk.nilr _ | exact Wk.nilm | apply Wk.aggc | apply Wk.tupc | exact Wk.aggn | exact Wk.tupn)); first | done | fail) ?_)), (by repeat (first | exact LeH.refl _ | exact LeH.nil _ | refine LeH.cons (by (fail_if_success (apply tkG)); (repeat (first | exact Tk.here | apply Tk.there)); first | done | fail) ?_ | refine LeH.boxw (by (fail_if_success (apply tkG)); (repeat (first | exact Tk.here | apply Tk.there)); first | done | fail) (by (repeat (first | exact Wk.refl _ | exact Wk.nilr _ | exact Wk.nilm | apply Wk.aggc | apply Wk.tupc | exact Wk.aggn | exact Wk.tupn)); first | done | fail) ?_ | refine LeH.skip ?_))⟩) ?_
        refine S.call ?_; refine (sort_c ((lkF t1 c).getD [] ++ [id]) u _ (by simp; try omega)).mono ?_; rintro r h' ⟨rfl, hh⟩; subst hh; generalize srt ((lkF t1 c).getD [] ++ [id]) = M at *; refine RL.frz (v := u) (by (fail_if_success (apply tkG)); (repeat (first | exact Tk.here | apply Tk.there)); first | done | fail) (by repeat' (first | apply FrzT.cons | exact FrzT.rest _ | exact Frz.hit | apply Frz.aggc | apply Frz.tupc | exact Frz.aggn | exact Frz.tupn | exact Frz.keep _)) (by repeat' (first | apply FrzH.box | apply FrzH.keep | exact FrzH.rest _ | exact Frz.hit | apply Frz.aggc | apply Frz.tupc | exact Frz.aggn | exact Frz.tupn | exact Frz.keep _)) ?_; (repeat' (first | refine svz ⟨fun b hq => ?_⟩ | refine sv1 ?_ | refine svs ⟨?_⟩ | refine svu ⟨fun u => ?_⟩ | (refine svg (fun hg => ?_) (fun hg => ?_) <;> try (exfalso; first | omega | contradiction)) | (refine svc (fun hc => ?_) (fun hc => ?_) <;> try (exfalso; first | omega | contradiction)) | refine sv2 ?_ | refine svh (fun hb => ?_) (fun hb => ?_) | refine svb (fun b => ?_) | refine sva ?_ | refine sv3 ?_)); refine S.mapU (f := vIds) (a := M) ?_; refine RL.nil ?_; generalize putF t1 c M = t2 at *; refine W.frzm (by (fail_if_success (apply tkG)); (repeat (first | exact Tk.here | apply Tk.there)); first | done | fail) (by repeat' (first | apply FzT.cons | exact FzT.rest _ | exact Fz.hit | apply Fz.aggc | apply Fz.tupc | exact Fz.aggn | exact Fz.tupn | exact Fz.keep _)) (by repeat' (first | apply FzH.box | apply FzH.keep | exact FzH.rest _ | exact Fz.hit | apply Fz.aggc | apply Fz.tupc | exact Fz.aggn | exact Fz.tupn | exact Fz.keep _)) ?_; (repeat' (first | (refine iS ?_; refine iMu ?_; refine S.mapU ?_) | refine svz ⟨fun b hq => ?_⟩ | refine sv1 ?_ | refine svs ⟨?_⟩ | refine svu ⟨fun u => ?_⟩ | (refine svg (fun hg => ?_) (fun hg => ?_) <;> try (exfalso; first | omega | contradiction)) | (refine svc (fun hc => ?_) (fun hc => ?_) <;> try (exfalso; first | omega | contradiction)) | refine sv2 ?_ | refine svh (fun hb => ?_) (fun hb => ?_) | refine svb (fun b => ?_) | refine sva ?_ | refine sv3 ?_)); exact fin_r (h' := h) ⟨rfl, rfl⟩
end Go.Proofs.Ytkpbbiknhhmfiaa
