/- saveset.Set.copied. No condition. -/
import Derived.Test.YtkpbbiknhhmfiaaQ1
import Derived.Test.YtkpbbiknhhmfiaaSR
namespace Go.Proofs.Ytkpbbiknhhmfiaa
open Go Go.VM
attribute [local irreducible] PurV Pur Step RL W D ACalls Then InBlock Fini
set_option linter.unusedVariables false
set_option linter.unusedSimpArgs false
set_option maxHeartbeats 20000000
abbrev SVT := List (Int × List Int)
def vIds (l : List Int) : AV := .ro 1 (ints .u32 l)
def encS (t : SVT) : AV := .agg [mapV .i64 vIds t]
def leftF (g : Int → Int → Bool) (c : Int) (l : List Int) : List Int := l.filter fun id => !g c id
def copF (g : Int → Int → Bool) (t : SVT) : SVT := t.filterMap fun p => if leftF g p.1 p.2 = [] then none else some (p.1, leftF g p.1 p.2)
theorem copF_snoc (g : Int → Int → Bool) (t : SVT) (p : Int × List Int) : copF g (t ++ [p]) = copF g t ++ if leftF g p.1 p.2 = [] then [] else [(p.1, leftF g p.1 p.2)] := by
  unfold copF
  rw [List.filterMap_append]
  congr 1
  by_cases h : leftF g p.1 p.2 = [] <;> simp [h]
theorem copF_keys {g : Int → Int → Bool} {t : SVT} {c : Int} (h : c ∈ (copF g t).map (·.1)) : c ∈ t.map (·.1) := by
  obtain ⟨p, hp, rfl⟩ := List.mem_map.1 h
  obtain ⟨q, hq, e⟩ := List.mem_filterMap.1 hp
  split at e
  · cases e
  · injection e with e
    exact List.mem_map.2 ⟨q, hq, by rw [← e]⟩
theorem leftF_snoc (g : Int → Int → Bool) (c : Int) (l : List Int) (x : Int) : leftF g c (l ++ [x]) = leftF g c l ++ if g c x then [] else [x] := by
  unfold leftF
  rw [List.filter_append]
  congr 1
  cases h : g c x <;> simp [h]
set_option maxRecDepth 100000 in
theorem copied_c (t : SVT) (f : Nat) (caps : List AV) [TFun Try.prog f] (g : Int → Int → Bool) (h : Heap) (hn : (t.map (·.1)).Nodup) (hl : ∀ p ∈ t, p.2.length ≤ 1000000) (htl : t.length ≤ 1000000)
    (hg : ∀ (X : Heap) (c id : Int), ACalls Try.prog f ([.val (.int .i64 (c)), .val (.int .u32 (id))] ++ caps) (X ++ h) (fun r h' => r = .val (.bool (g c id)) ∧ h' = X ++ h)) :
    ACalls Try.prog 36 [encS t, .clo (.func f) caps] h (fun r h' => ∃ b, r = .agg [.val (.map (some b))] ∧ h' = mpV b .i64 vIds (copF g t) :: h) := by
  unfold encS
  refine ACalls.intro Try.func36 rfl Try.ntmps36 Try.results36 (Nat.le_of_ble_eq_true rfl) ?_
  (repeat' (first | (refine iS ?_; refine iMu ?_; refine S.mapU ?_) | refine svz ⟨fun b hq => ?_⟩ | refine sv1 ?_ | refine svs ⟨?_⟩ | refine svu ⟨fun u => ?_⟩ | (refine svg (fun hg => ?_) (fun hg => ?_) <;> try (exfalso; first | omega | contradiction)) | (refine svc (fun hc => ?_) (fun hc => ?_) <;> try (exfalso; first | omega | contradiction)) | refine sv2 ?_ | refine svh (fun hb => ?_) (fun hb => ?_) | refine svb (fun b => ?_) | refine sva ?_ | refine sv3 ?_))
  revert b; intro b4
  refine S.mkm vIds (fun bm => ?_)
  (repeat' (first | (refine iS ?_; refine iMu ?_; refine S.mapU ?_) | refine svz ⟨fun b hq => ?_⟩ | refine sv1 ?_ | refine svs ⟨?_⟩ | refine svu ⟨fun u => ?_⟩ | (refine svg (fun hg => ?_) (fun hg => ?_) <;> try (exfalso; first | omega | contradiction)) | (refine svc (fun hc => ?_) (fun hc => ?_) <;> try (exfalso; first | omega | contradiction)) | refine sv2 ?_ | refine svh (fun hb => ?_) (fun hb => ?_) | refine svb (fun b => ?_) | refine sva ?_ | refine sv3 ?_))
  revert b; intro b18
  refine W.loop (J := fun x : List Nat × Option Nat × SVT => ⟨48, [(18, .val (.pointer (some ⟨b18, 0, none⟩))), (5, .val (.map (some bm))), (4, .val (.pointer (some ⟨b4, 0, none⟩))), (1, .clo (.func f) caps)], mitV b18 .i64 vIds t x.1 x.2.1 :: mpV bm .i64 vIds (copF g x.2.2) :: .box b4 [.val (.map none)] 34 :: h⟩)
    (Φ := fun x => (x.2.2 ++ remL t x.1).Perm t) (μ := fun x => x.1.length) (List.range t.length, none, []) ⟨rfl, (by repeat (first | exact LeT.nil | refine LeT.cons rfl ?_ | refine LeT.consw rfl (by (repeat (first | exact Wk.refl _ | exact Wk.nilr _ | exact Wk.nilm | apply Wk.aggc | apply Wk.tupc | exact Wk.aggn | exact Wk.tupn)); first | done | fail) ?_)), (by repeat (first | exact LeH.refl _ | exact LeH.nil _ | refine LeH.cons (by (fail_if_success (apply tkG)); (repeat (first | exact Tk.here | apply Tk.there)); first | done | fail) ?_ | refine LeH.boxw (by (fail_if_success (apply tkG)); (repeat (first | exact Tk.here | apply Tk.there)); first | done | fail) (by (repeat (first | exact Wk.refl _ | exact Wk.nilr _ | exact Wk.nilm | apply Wk.aggc | apply Wk.tupc | exact Wk.aggn | exact Wk.tupn)); first | done | fail) ?_ | refine LeH.skip ?_))⟩ (rng_start t) ?_
  rintro ⟨left, last, done⟩ hp
  dsimp only at hp ⊢
  (repeat' (first | (refine iS ?_; refine iMu ?_; refine S.mapU ?_) | refine svz ⟨fun b hq => ?_⟩ | refine sv1 ?_ | refine svs ⟨?_⟩ | refine svu ⟨fun u => ?_⟩ | (refine svg (fun hg => ?_) (fun hg => ?_) <;> try (exfalso; first | omega | contradiction)) | (refine svc (fun hc => ?_) (fun hc => ?_) <;> try (exfalso; first | omega | contradiction)) | refine sv2 ?_ | refine svh (fun hb => ?_) (fun hb => ?_) | refine svb (fun b => ?_) | refine sva ?_ | refine sv3 ?_))
  refine S.next (fun hle => ?_) (fun i p hi hpi => ?_)
  · have hd := rng_end hp hle
    (repeat' (first | (refine iS ?_; refine iMu ?_; refine S.mapU ?_) | refine svz ⟨fun b hq => ?_⟩ | refine sv1 ?_ | refine svs ⟨?_⟩ | refine svu ⟨fun u => ?_⟩ | (refine svg (fun hg => ?_) (fun hg => ?_) <;> try (exfalso; first | omega | contradiction)) | (refine svc (fun hc => ?_) (fun hc => ?_) <;> try (exfalso; first | omega | contradiction)) | refine sv2 ?_ | refine svh (fun hb => ?_) (fun hb => ?_) | refine svb (fun b => ?_) | refine sva ?_ | refine sv3 ?_))
    exact fin_r (h' := mpV bm .i64 vIds (copF g t) :: h) ⟨bm, rfl, rfl⟩ (h2 := .skip (leh_mp (hd.filterMap _) (.skip (.refl _))))
  · have hst := rng_step hp hi hpi
    have hnd := (hst.map (·.1)).nodup_iff.2 hn
    rw [List.map_append, List.map_append, List.append_assoc, List.nodup_append] at hnd
    have hnew : p.1 ∉ (copF g done).map (·.1) := fun hm => hnd.2.2 p.1 (copF_keys hm) p.1 (by simp) rfl
    obtain ⟨c, l⟩ := p
    have hll := hl (c, l) (List.mem_of_getElem? hpi)
    have hcs := copF_snoc g done (c, l)
    dsimp only at hnew hll hcs
    have hlq := List.length_filter_le (fun id => !g c id) l
    unfold vIds at *
    (repeat' (first | (refine iS ?_; refine iMu ?_; refine S.mapU ?_) | refine svz ⟨fun b hq => ?_⟩ | refine sv1 ?_ | refine svs ⟨?_⟩ | refine svu ⟨fun u => ?_⟩ | (refine svg (fun hg => ?_) (fun hg => ?_) <;> try (exfalso; first | omega | contradiction)) | (refine svc (fun hc => ?_) (fun hc => ?_) <;> try (exfalso; first | omega | contradiction)) | refine sv2 ?_ | refine svh (fun hb => ?_) (fun hb => ?_) | refine svb (fun b => ?_) | refine sva ?_ | refine sv3 ?_))
    refine W.nil_ 1 43 ?_
    refine W.loop (J := fun z : Nat × Value => ⟨48, [(26, .val (.int .i64 ((z.1 : Nat)))), (25, .val (.int .i64 ((l.length : Nat)))), (24, .ro 1 (ints .u32 l)), (8, .val z.2), (6, .val (.int .i64 (c))), (18, .val (.pointer (some ⟨b18, 0, none⟩))), (5, .val (.map (some bm))), (4, .val (.pointer (some ⟨b4, 0, none⟩))), (1, .clo (.func f) caps)], .own z.2 1 (ints .u32 (leftF g c (l.take z.1))) 43 :: mitV b18 .i64 vIds t (left.erase i) (some i) :: mpV bm .i64 vIds (copF g done) :: .box b4 [.val (.map none)] 34 :: h⟩)
      (Φ := fun z => z.1 ≤ l.length) (μ := fun z => l.length - z.1) (0, .slice none 0 0) ⟨rfl, (by repeat (first | exact LeT.nil | refine LeT.cons rfl ?_ | refine LeT.consw rfl (by (repeat (first | exact Wk.refl _ | exact Wk.nilr _ | exact Wk.nilm | apply Wk.aggc | apply Wk.tupc | exact Wk.aggn | exact Wk.tupn)); first | done | fail) ?_)), (by repeat (first | exact LeH.refl _ | exact LeH.nil _ | refine LeH.cons (by (fail_if_success (apply tkG)); (repeat (first | exact Tk.here | apply Tk.there)); first | done | fail) ?_ | refine LeH.boxw (by (fail_if_success (apply tkG)); (repeat (first | exact Tk.here | apply Tk.there)); first | done | fail) (by (repeat (first | exact Wk.refl _ | exact Wk.nilr _ | exact Wk.nilm | apply Wk.aggc | apply Wk.tupc | exact Wk.aggn | exact Wk.tupn)); first | done | fail) ?_ | refine LeH.skip ?_))⟩ (Nat.zero_le _) ?_
    rintro ⟨k, v⟩ hk
    dsimp only at hk ⊢
    rcases Nat.lt_or_ge k l.length with hlt | hge
    · obtain ⟨a, ha⟩ : ∃ a, l[k]? = some a := ⟨_, List.getElem?_eq_getElem hlt⟩
      have hs := leftF_snoc g c (l.take k) a
      rw [show l.take k ++ [a] = l.take (k + 1) by rw [List.take_add_one, ha]; rfl] at hs
      have hlk : (leftF g c (l.take k)).length ≤ 1000000 := by
        have h1 := List.length_filter_le (fun id => !g c id) (l.take k)
        rw [List.length_take] at h1
        unfold leftF; omega
      (repeat' (first | (refine iS ?_; refine iMu ?_; refine S.mapU ?_) | refine svz ⟨fun b hq => ?_⟩ | refine sv1 ?_ | refine svs ⟨?_⟩ | refine svu ⟨fun u => ?_⟩ | (refine svg (fun hg => ?_) (fun hg => ?_) <;> try (exfalso; first | omega | contradiction)) | (refine svc (fun hc => ?_) (fun hc => ?_) <;> try (exfalso; first | omega | contradiction)) | refine sv2 ?_ | refine svh (fun hb => ?_) (fun hb => ?_) | refine svb (fun b => ?_) | refine sva ?_ | refine sv3 ?_))
      refine S.callv (.clo f caps) ((hg [.own v 1 (ints .u32 (leftF g c (l.take k))) 43, mitV b18 .i64 vIds t (left.erase i) (some i), mpV bm .i64 vIds (copF g done), .box b4 [.val (.map none)] 34] c a).mono ?_)
      rintro r h' ⟨rfl, rfl⟩
      simp only [List.cons_append, List.nil_append]
      cases hgc : g c a with
      | true =>
        rw [hgc, if_pos rfl, List.append_nil] at hs
        (repeat' (first | (refine iR2 ?_; refine r2b ?_; refine R2.one ?_) | (refine iS ?_; refine iN ?_; refine S.build1r ?_) | (refine iS ?_; refine iMu ?_; refine S.mapU ?_) | refine svz ⟨fun b hq => ?_⟩ | refine sv1 ?_ | refine svs ⟨?_⟩ | refine svu ⟨fun u => ?_⟩ | (refine svg (fun hg => ?_) (fun hg => ?_) <;> try (exfalso; first | omega | contradiction)) | (refine svc (fun hc => ?_) (fun hc => ?_) <;> try (exfalso; first | omega | contradiction)) | refine sv2 ?_ | refine svh (fun hb => ?_) (fun hb => ?_) | refine svb (fun b => ?_) | refine sva ?_ | refine sv3 ?_))
        exact ⟨(k + 1, v), hlt, by dsimp only; rw [hs]; exact ⟨rfl, (by repeat (first | exact LeT.nil | refine LeT.cons rfl ?_ | refine LeT.consw rfl (by (repeat (first | exact Wk.refl _ | exact Wk.nilr _ | exact Wk.nilm | apply Wk.aggc | apply Wk.tupc | exact Wk.aggn | exact Wk.tupn)); first | done | fail) ?_)), (by repeat (first | exact LeH.refl _ | exact LeH.nil _ | refine LeH.cons (by (fail_if_success (apply tkG)); (repeat (first | exact Tk.here | apply Tk.there)); first | done | fail) ?_ | refine LeH.boxw (by (fail_if_success (apply tkG)); (repeat (first | exact Tk.here | apply Tk.there)); first | done | fail) (by (repeat (first | exact Wk.refl _ | exact Wk.nilr _ | exact Wk.nilm | apply Wk.aggc | apply Wk.tupc | exact Wk.aggn | exact Wk.tupn)); first | done | fail) ?_ | refine LeH.skip ?_))⟩, by dsimp only; omega⟩
      | false =>
        rw [hgc, if_neg (by decide)] at hs
        (repeat' (first | (refine iR2 ?_; refine r2b ?_; refine R2.one ?_) | (refine iS ?_; refine iN ?_; refine S.build1r ?_) | (refine iS ?_; refine iMu ?_; refine S.mapU ?_) | refine svz ⟨fun b hq => ?_⟩ | refine sv1 ?_ | refine svs ⟨?_⟩ | refine svu ⟨fun u => ?_⟩ | (refine svg (fun hg => ?_) (fun hg => ?_) <;> try (exfalso; first | omega | contradiction)) | (refine svc (fun hc => ?_) (fun hc => ?_) <;> try (exfalso; first | omega | contradiction)) | refine sv2 ?_ | refine svh (fun hb => ?_) (fun hb => ?_) | refine svb (fun b => ?_) | refine sva ?_ | refine sv3 ?_))
        exact ⟨(k + 1, u), hlt, by dsimp only; rw [hs, show ints .u32 (leftF g c (l.take k) ++ [a]) = ints .u32 (leftF g c (l.take k)) ++ [.val (.int .u32 a)] by simp [ints]]; exact ⟨rfl, (by repeat (first | exact LeT.nil | refine LeT.cons rfl ?_ | refine LeT.consw rfl (by (repeat (first | exact Wk.refl _ | exact Wk.nilr _ | exact Wk.nilm | apply Wk.aggc | apply Wk.tupc | exact Wk.aggn | exact Wk.tupn)); first | done | fail) ?_)), (by repeat (first | exact LeH.refl _ | exact LeH.nil _ | refine LeH.cons (by (fail_if_success (apply tkG)); (repeat (first | exact Tk.here | apply Tk.there)); first | done | fail) ?_ | refine LeH.boxw (by (fail_if_success (apply tkG)); (repeat (first | exact Tk.here | apply Tk.there)); first | done | fail) (by (repeat (first | exact Wk.refl _ | exact Wk.nilr _ | exact Wk.nilm | apply Wk.aggc | apply Wk.tupc | exact Wk.aggn | exact Wk.tupn)); first | done | fail) ?_ | refine LeH.skip ?_))⟩, by dsimp only; omega⟩
    · have e : k = l.length := by omega
      subst e
      rw [List.take_length]
      have hlf : (leftF g c l).length ≤ 1000000 := by unfold leftF; omega
      by_cases hz : leftF g c l = []
      · rw [if_pos hz, List.append_nil] at hcs
        rw [hz]
        (repeat' (first | (refine iS ?_; refine iMu ?_; refine S.mapU ?_) | refine svz ⟨fun b hq => ?_⟩ | refine sv1 ?_ | refine svs ⟨?_⟩ | refine svu ⟨fun u => ?_⟩ | (refine svg (fun hg => ?_) (fun hg => ?_) <;> try (exfalso; first | omega | contradiction)) | (refine svc (fun hc => ?_) (fun hc => ?_) <;> try (exfalso; first | omega | contradiction)) | refine sv2 ?_ | refine svh (fun hb => ?_) (fun hb => ?_) | refine svb (fun b => ?_) | refine sva ?_ | refine sv3 ?_))
        exact ⟨(left.erase i, some i, done ++ [(c, l)]), hst, by dsimp only; rw [hcs]; exact ⟨rfl, (by repeat (first | exact LeT.nil | refine LeT.cons rfl ?_ | refine LeT.consw rfl (by (repeat (first | exact Wk.refl _ | exact Wk.nilr _ | exact Wk.nilm | apply Wk.aggc | apply Wk.tupc | exact Wk.aggn | exact Wk.tupn)); first | done | fail) ?_)), (by repeat (first | exact LeH.refl _ | exact LeH.nil _ | refine LeH.cons (by (fail_if_success (apply tkG)); (repeat (first | exact Tk.here | apply Tk.there)); first | done | fail) ?_ | refine LeH.boxw (by (fail_if_success (apply tkG)); (repeat (first | exact Tk.here | apply Tk.there)); first | done | fail) (by (repeat (first | exact Wk.refl _ | exact Wk.nilr _ | exact Wk.nilm | apply Wk.aggc | apply Wk.tupc | exact Wk.aggn | exact Wk.tupn)); first | done | fail) ?_ | refine LeH.skip ?_))⟩, rng_less hi⟩
      · rw [if_neg hz] at hcs
        have hpos := List.length_pos_iff.2 hz
        refine W.frz (v := v) (by (fail_if_success (apply tkG)); (repeat (first | exact Tk.here | apply Tk.there)); first | done | fail) (by repeat' (first | apply FrzT.cons | exact FrzT.rest _ | exact Frz.hit | apply Frz.aggc | apply Frz.tupc | exact Frz.aggn | exact Frz.tupn | exact Frz.keep _)) (by repeat' (first | apply FrzH.box | apply FrzH.keep | exact FrzH.rest _ | exact Frz.hit | apply Frz.aggc | apply Frz.tupc | exact Frz.aggn | exact Frz.tupn | exact Frz.keep _)) ?_
        (repeat' (first | refine svz ⟨fun b hq => ?_⟩ | refine sv1 ?_ | refine svs ⟨?_⟩ | refine svu ⟨fun u => ?_⟩ | (refine svg (fun hg => ?_) (fun hg => ?_) <;> try (exfalso; first | omega | contradiction)) | (refine svc (fun hc => ?_) (fun hc => ?_) <;> try (exfalso; first | omega | contradiction)) | refine sv2 ?_ | refine svh (fun hb => ?_) (fun hb => ?_) | refine svb (fun b => ?_) | refine sva ?_ | refine sv3 ?_))
        refine S.mapU (f := vIds) (a := leftF g c l) ?_
        refine RL.nil ?_
        rw [putF_new _ hnew]
        (repeat' (first | (refine iS ?_; refine iMu ?_; refine S.mapU ?_) | refine svz ⟨fun b hq => ?_⟩ | refine sv1 ?_ | refine svs ⟨?_⟩ | refine svu ⟨fun u => ?_⟩ | (refine svg (fun hg => ?_) (fun hg => ?_) <;> try (exfalso; first | omega | contradiction)) | (refine svc (fun hc => ?_) (fun hc => ?_) <;> try (exfalso; first | omega | contradiction)) | refine sv2 ?_ | refine svh (fun hb => ?_) (fun hb => ?_) | refine svb (fun b => ?_) | refine sva ?_ | refine sv3 ?_))
        exact ⟨(left.erase i, some i, done ++ [(c, l)]), hst, by dsimp only; rw [hcs]; exact ⟨rfl, (by repeat (first | exact LeT.nil | refine LeT.cons rfl ?_ | refine LeT.consw rfl (by (repeat (first | exact Wk.refl _ | exact Wk.nilr _ | exact Wk.nilm | apply Wk.aggc | apply Wk.tupc | exact Wk.aggn | exact Wk.tupn)); first | done | fail) ?_)), (by repeat (first | exact LeH.refl _ | exact LeH.nil _ | refine LeH.cons (by (fail_if_success (apply tkG)); (repeat (first | exact Tk.here | apply Tk.there)); first | done | fail) ?_ | refine LeH.boxw (by (fail_if_success (apply tkG)); (repeat (first | exact Tk.here | apply Tk.there)); first | done | fail) (by (repeat (first | exact Wk.refl _ | exact Wk.nilr _ | exact Wk.nilm | apply Wk.aggc | apply Wk.tupc | exact Wk.aggn | exact Wk.tupn)); first | done | fail) ?_ | refine LeH.skip ?_))⟩, rng_less hi⟩
end Go.Proofs.Ytkpbbiknhhmfiaa
