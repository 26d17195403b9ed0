/- saveset.Rescue. No condition. -/
import Derived.Test.YtkpbbiknhhmfiaaQ11
namespace Go.Proofs.Ytkpbbiknhhmfiaa
open Go Go.VM
attribute [local irreducible] PurV Pur Step RL W D ACalls Then InBlock Fini
set_option linter.unusedVariables false
set_option linter.unusedSimpArgs false
set_option maxHeartbeats 20000000
def livesL (own saved : List Int) : List Int → Bool
  | [] => false
  | x :: L => decide (x = 1) || (!decide (x ∈ own) && (decide (x ∈ saved) || livesL own saved L))
theorem livesL_root (own saved : List Int) (L : List Int) : livesL own saved (1 :: L) = true := by simp [livesL]
theorem livesL_own {own saved : List Int} {x : Int} {L : List Int} (h1 : x ≠ 1) (h : x ∈ own) : livesL own saved (x :: L) = false := by simp [livesL, h1, h]
theorem livesL_saved {own saved : List Int} {x : Int} {L : List Int} (h : x ∉ own) (h2 : x ∈ saved) : livesL own saved (x :: L) = true := by simp [livesL, h, h2]
theorem livesL_up {own saved : List Int} {x : Int} {L : List Int} (h1 : x ≠ 1) (h : x ∉ own) (h2 : x ∉ saved) : livesL own saved (x :: L) = livesL own saved L := by simp [livesL, h1, h, h2]
set_option maxRecDepth 100000 in
theorem lives_c (k : SVT) (up : UP) (own saved : List Int) (b9 b11 b5 b12 : Nat) (h : Heap) (m9 : OE.box b9 [.ro 1 (ints .u32 (own))] 36 ∈ h) (m11 : OE.box b11 [.ro 1 (ints .u32 (saved))] 36 ∈ h)
    (m5 : OE.box b5 [mapV .u32 vIds k, mapV .u32 (vI .u32) up] 28 ∈ h) (m12 : OE.box b12 [.clo (.func 32) [.val (.pointer (some ⟨b9, 0, none⟩)), .val (.pointer (some ⟨b11, 0, none⟩)), .val (.pointer (some ⟨b5, 0, none⟩)), .val (.pointer (some ⟨b12, 0, none⟩))]] 88 ∈ h) {id : Int} {R : List Int} (hp : Pth up id R) :
    ACalls Try.prog 32 ([.val (.int .u32 (id))] ++ [.val (.pointer (some ⟨b9, 0, none⟩)), .val (.pointer (some ⟨b11, 0, none⟩)), .val (.pointer (some ⟨b5, 0, none⟩)), .val (.pointer (some ⟨b12, 0, none⟩))]) h (fun r h' => r = .val (.bool (livesL own saved (id :: R))) ∧ h' = h) := by
  induction hp with
  | root =>
    rw [livesL_root]
    simp only [List.cons_append, List.nil_append]
    refine ACalls.intro Try.func32 rfl Try.ntmps32 Try.results32 (Nat.le_of_ble_eq_true rfl) ?_
    (repeat' (first | (refine iS ?_; refine iMu ?_; refine S.mapU ?_) | refine svz ⟨fun b hq => ?_⟩ | refine sv1 ?_ | refine svs ⟨?_⟩ | refine svu ⟨fun u => ?_⟩ | (refine svg (fun hg => ?_) (fun hg => ?_) <;> try (exfalso; first | omega | contradiction)) | (refine svc (fun hc => ?_) (fun hc => ?_) <;> try (exfalso; first | omega | contradiction)) | refine sv2 ?_ | refine svh (fun hb => ?_) (fun hb => ?_) | refine svb (fun b => ?_) | refine sva ?_ | refine sv3 ?_))
    exact fin_r (h' := h) ⟨rfl, rfl⟩
  | @up id p R h1 h2 r ih =>
    have c1 := fun h => contains_c own id h
    have c2 := fun h => contains_c saved id h
    have pc := fun h => parent_c k up id h
    rw [h2] at pc
    unfold encT at pc
    simp only [List.cons_append, List.nil_append] at ih ⊢
    by_cases h3 : id ∈ own
    · rw [livesL_own h1 h3]
      rw [decide_eq_true h3] at c1
      refine ACalls.intro Try.func32 rfl Try.ntmps32 Try.results32 (Nat.le_of_ble_eq_true rfl) ?_
      (repeat' (first | (refine iS ?_; refine iMu ?_; refine S.mapU ?_) | refine svz ⟨fun b hq => ?_⟩ | refine sv1 ?_ | refine svs ⟨?_⟩ | refine svu ⟨fun u => ?_⟩ | (refine svg (fun hg => ?_) (fun hg => ?_) <;> try (exfalso; first | omega | contradiction)) | (refine svc (fun hc => ?_) (fun hc => ?_) <;> try (exfalso; first | omega | contradiction)) | refine sv2 ?_ | refine svh (fun hb => ?_) (fun hb => ?_) | refine svb (fun b => ?_) | refine sva ?_ | refine sv3 ?_))
      refine S.call ?_; refine (c1 _).mono ?_; rintro r h' ⟨rfl, hh⟩; subst hh
      (repeat' (first | (refine iS ?_; refine iMu ?_; refine S.mapU ?_) | refine svz ⟨fun b hq => ?_⟩ | refine sv1 ?_ | refine svs ⟨?_⟩ | refine svu ⟨fun u => ?_⟩ | (refine svg (fun hg => ?_) (fun hg => ?_) <;> try (exfalso; first | omega | contradiction)) | (refine svc (fun hc => ?_) (fun hc => ?_) <;> try (exfalso; first | omega | contradiction)) | refine sv2 ?_ | refine svh (fun hb => ?_) (fun hb => ?_) | refine svb (fun b => ?_) | refine sva ?_ | refine sv3 ?_))
      exact fin_r (h' := _) ⟨rfl, rfl⟩
    rw [decide_eq_false h3] at c1
    by_cases h4 : id ∈ saved
    · rw [livesL_saved h3 h4]
      rw [decide_eq_true h4] at c2
      refine ACalls.intro Try.func32 rfl Try.ntmps32 Try.results32 (Nat.le_of_ble_eq_true rfl) ?_
      (repeat' (first | (refine iS ?_; refine iMu ?_; refine S.mapU ?_) | refine svz ⟨fun b hq => ?_⟩ | refine sv1 ?_ | refine svs ⟨?_⟩ | refine svu ⟨fun u => ?_⟩ | (refine svg (fun hg => ?_) (fun hg => ?_) <;> try (exfalso; first | omega | contradiction)) | (refine svc (fun hc => ?_) (fun hc => ?_) <;> try (exfalso; first | omega | contradiction)) | refine sv2 ?_ | refine svh (fun hb => ?_) (fun hb => ?_) | refine svb (fun b => ?_) | refine sva ?_ | refine sv3 ?_))
      refine S.call ?_; refine (c1 _).mono ?_; rintro r h' ⟨rfl, hh⟩; subst hh
      (repeat' (first | (refine iS ?_; refine iMu ?_; refine S.mapU ?_) | refine svz ⟨fun b hq => ?_⟩ | refine sv1 ?_ | refine svs ⟨?_⟩ | refine svu ⟨fun u => ?_⟩ | (refine svg (fun hg => ?_) (fun hg => ?_) <;> try (exfalso; first | omega | contradiction)) | (refine svc (fun hc => ?_) (fun hc => ?_) <;> try (exfalso; first | omega | contradiction)) | refine sv2 ?_ | refine svh (fun hb => ?_) (fun hb => ?_) | refine svb (fun b => ?_) | refine sva ?_ | refine sv3 ?_))
      refine S.call ?_; refine (c2 _).mono ?_; rintro r h' ⟨rfl, hh⟩; subst hh
      (repeat' (first | (refine iS ?_; refine iMu ?_; refine S.mapU ?_) | refine svz ⟨fun b hq => ?_⟩ | refine sv1 ?_ | refine svs ⟨?_⟩ | refine svu ⟨fun u => ?_⟩ | (refine svg (fun hg => ?_) (fun hg => ?_) <;> try (exfalso; first | omega | contradiction)) | (refine svc (fun hc => ?_) (fun hc => ?_) <;> try (exfalso; first | omega | contradiction)) | refine sv2 ?_ | refine svh (fun hb => ?_) (fun hb => ?_) | refine svb (fun b => ?_) | refine sva ?_ | refine sv3 ?_))
      exact fin_r (h' := _) ⟨rfl, rfl⟩
    rw [decide_eq_false h4] at c2
    rw [livesL_up h1 h3 h4]
    generalize livesL own saved (p :: R) = bb at *
    refine ACalls.intro Try.func32 rfl Try.ntmps32 Try.results32 (Nat.le_of_ble_eq_true rfl) ?_
    (repeat' (first | (refine iS ?_; refine iMu ?_; refine S.mapU ?_) | refine svz ⟨fun b hq => ?_⟩ | refine sv1 ?_ | refine svs ⟨?_⟩ | refine svu ⟨fun u => ?_⟩ | (refine svg (fun hg => ?_) (fun hg => ?_) <;> try (exfalso; first | omega | contradiction)) | (refine svc (fun hc => ?_) (fun hc => ?_) <;> try (exfalso; first | omega | contradiction)) | refine sv2 ?_ | refine svh (fun hb => ?_) (fun hb => ?_) | refine svb (fun b => ?_) | refine sva ?_ | refine sv3 ?_))
    refine S.call ?_; refine (c1 _).mono ?_; rintro r h' ⟨rfl, hh⟩; subst hh
    (repeat' (first | (refine iS ?_; refine iMu ?_; refine S.mapU ?_) | refine svz ⟨fun b hq => ?_⟩ | refine sv1 ?_ | refine svs ⟨?_⟩ | refine svu ⟨fun u => ?_⟩ | (refine svg (fun hg => ?_) (fun hg => ?_) <;> try (exfalso; first | omega | contradiction)) | (refine svc (fun hc => ?_) (fun hc => ?_) <;> try (exfalso; first | omega | contradiction)) | refine sv2 ?_ | refine svh (fun hb => ?_) (fun hb => ?_) | refine svb (fun b => ?_) | refine sva ?_ | refine sv3 ?_))
    refine S.call ?_; refine (c2 _).mono ?_; rintro r h' ⟨rfl, hh⟩; subst hh
    (repeat' (first | (refine iS ?_; refine iMu ?_; refine S.mapU ?_) | refine svz ⟨fun b hq => ?_⟩ | refine sv1 ?_ | refine svs ⟨?_⟩ | refine svu ⟨fun u => ?_⟩ | (refine svg (fun hg => ?_) (fun hg => ?_) <;> try (exfalso; first | omega | contradiction)) | (refine svc (fun hc => ?_) (fun hc => ?_) <;> try (exfalso; first | omega | contradiction)) | refine sv2 ?_ | refine svh (fun hb => ?_) (fun hb => ?_) | refine svb (fun b => ?_) | refine sva ?_ | refine sv3 ?_))
    refine S.call ?_; refine (pc _).mono ?_; rintro r h' ⟨rfl, hh⟩; subst hh
    (repeat' (first | (refine iS ?_; refine iMu ?_; refine S.mapU ?_) | refine svz ⟨fun b hq => ?_⟩ | refine sv1 ?_ | refine svs ⟨?_⟩ | refine svu ⟨fun u => ?_⟩ | (refine svg (fun hg => ?_) (fun hg => ?_) <;> try (exfalso; first | omega | contradiction)) | (refine svc (fun hc => ?_) (fun hc => ?_) <;> try (exfalso; first | omega | contradiction)) | refine sv2 ?_ | refine svh (fun hb => ?_) (fun hb => ?_) | refine svb (fun b => ?_) | refine sva ?_ | refine sv3 ?_))
    refine S.callv (.clo 32 [.val (.pointer (some ⟨b9, 0, none⟩)), .val (.pointer (some ⟨b11, 0, none⟩)), .val (.pointer (some ⟨b5, 0, none⟩)), .val (.pointer (some ⟨b12, 0, none⟩))]) (ih.mono ?_)
    rintro r h' ⟨rfl, hh⟩
    subst hh
    (repeat' (first | (refine iS ?_; refine iMu ?_; refine S.mapU ?_) | refine svz ⟨fun b hq => ?_⟩ | refine sv1 ?_ | refine svs ⟨?_⟩ | refine svu ⟨fun u => ?_⟩ | (refine svg (fun hg => ?_) (fun hg => ?_) <;> try (exfalso; first | omega | contradiction)) | (refine svc (fun hc => ?_) (fun hc => ?_) <;> try (exfalso; first | omega | contradiction)) | refine sv2 ?_ | refine svh (fun hb => ?_) (fun hb => ?_) | refine svb (fun b => ?_) | refine sva ?_ | refine sv3 ?_))
    exact fin_r (h' := _) ⟨rfl, rfl⟩
structure MV where
  (id to x y : Int) (m : Bool)
deriving DecidableEq
def MV.enc (v : MV) : AV := .agg [.val (.int .u32 (v.id)), .val (.int .u32 (v.to)), .val (.int .i64 (v.x)), .val (.int .i64 (v.y)), .val (.bool (v.m))]
def dropL (own saved : List Int) : List Int → List Int
  | [] => []
  | x :: L => if livesL own saved (x :: L) then x :: L else dropL own saved L
theorem dropL_hit {own saved : List Int} {x : Int} {L : List Int} (h : livesL own saved (x :: L) = true) : dropL own saved (x :: L) = x :: L := by rw [dropL, if_pos h]
theorem dropL_miss {own saved : List Int} {x : Int} {L : List Int} (h : livesL own saved (x :: L) = false) : dropL own saved (x :: L) = dropL own saved L := by rw [dropL, if_neg (by rw [h]; decide)]
def mvF (t : PT) (own saved : List Int) (id : Int) (P : List Int) : Option MV :=
  if id ∈ own ∨ livesL own saved P = true then none else
  some ⟨id, (dropL own saved P).headD 1, sumX t (id :: P) - sumX t (dropL own saved P), sumY t (id :: P) - sumY t (dropL own saved P), !(bxF t id).m⟩
def mvS (up : UP) (t : PT) (own saved : List Int) (R : Int → List Int) (id : Int) : Option MV := (lkF up id).bind fun p => mvF t own saved id (p :: R p)
def resF (up : UP) (t : PT) (own saved : List Int) (R : Int → List Int) (l : List Int) : List MV := l.filterMap (mvS up t own saved R)
theorem resF_snoc (up : UP) (t : PT) (own saved : List Int) (R : Int → List Int) (l : List Int) (x : Int) : resF up t own saved R (l ++ [x]) = resF up t own saved R l ++ (mvS up t own saved R x).toList := by
  unfold resF
  rw [List.filterMap_append]
  cases h : mvS up t own saved R x <;> simp [h]
theorem sumX_bd {t : PT} (hx : ∀ w b, lkF t w = some b → (-40000 ≤ b.x ∧ b.x ≤ 40000) ∧ -40000 ≤ b.y ∧ b.y ≤ 40000) : ∀ L, (-40000 * (L.length : Int) ≤ sumX t L ∧ sumX t L ≤ 40000 * (L.length : Int)) ∧ -40000 * (L.length : Int) ≤ sumY t L ∧ sumY t L ≤ 40000 * (L.length : Int)
  | [] => by simp [sumX, sumY]
  | w :: L => by
    have ih := sumX_bd hx L
    have hb : (-40000 ≤ (bxF t w).x ∧ (bxF t w).x ≤ 40000) ∧ -40000 ≤ (bxF t w).y ∧ (bxF t w).y ≤ 40000 := by
      unfold bxF
      cases e : lkF t w with
      | none => simp
      | some b => exact hx w b e
    unfold sumX sumY
    rw [List.length_cons]
    split <;> omega
theorem dropL_len (own saved : List Int) : ∀ P, (dropL own saved P).length ≤ P.length
  | [] => Nat.le_refl _
  | x :: L => by
    unfold dropL
    split
    · exact Nat.le_refl _
    · exact Nat.le_succ_of_le (dropL_len own saved L)
set_option maxRecDepth 100000 in
theorem rescue_c (k : SVT) (up : UP) (t : PT) (st : SVT) (c : Int) (own : List Int) (R : Int → List Int) (h : Heap) (h0 : lkF up 0 = none) (hsl : (ofS st c).length ≤ 100000)
    (hP : ∀ id ∈ ofS st c, ∀ p, lkF up id = some p → id ≠ 1 ∧ Pth up p (R p) ∧ (R p).length ≤ 900 ∧ ∀ w ∈ id :: p :: R p, ∃ b, lkF t w = some b)
    (hx : ∀ w b, lkF t w = some b → (-40000 ≤ b.x ∧ b.x ≤ 40000) ∧ -40000 ≤ b.y ∧ b.y ≤ 40000) :
    ACalls Try.prog 16 [encT k up, encP t, encS st, .val (.int .i64 (c)), .ro 1 (ints .u32 (own))] h (fun r h' => r = .ro 5 ((resF up t own (ofS st c) R (ofS st c)).map MV.enc) ∧ h' = h) := by
  have oc := fun h => ofs_c st c h (by omega)
  refine ACalls.frz (Q := fun r h' => ∃ v, r = .val v ∧ h' = .own v 5 ((resF up t own (ofS st c) R (ofS st c)).map MV.enc) 52 :: h) ?_ (by rintro r h' ⟨v, rfl, rfl⟩; exact ⟨v, 5, _, _, _, h, .here, .hit, rfl, rfl⟩)
  generalize ofS st c = saved at *
  unfold encT encP encS at *
  refine ACalls.intro Try.func16 rfl Try.ntmps16 Try.results16 (Nat.le_of_ble_eq_true rfl) ?_
  (repeat' (first | (refine iS ?_; refine iMu ?_; refine S.mapU ?_) | refine svz ⟨fun b hq => ?_⟩ | refine sv1 ?_ | refine svs ⟨?_⟩ | refine svu ⟨fun u => ?_⟩ | (refine svg (fun hg => ?_) (fun hg => ?_) <;> try (exfalso; first | omega | contradiction)) | (refine svc (fun hc => ?_) (fun hc => ?_) <;> try (exfalso; first | omega | contradiction)) | refine sv2 ?_ | refine svh (fun hb => ?_) (fun hb => ?_) | refine svb (fun b => ?_) | refine sva ?_ | refine sv3 ?_))
  refine S.call ?_; refine (oc _).mono ?_; rintro r h' ⟨rfl, hh⟩; subst hh
  (repeat' (first | (refine iS ?_; refine iMu ?_; refine S.mapU ?_) | refine svz ⟨fun b hq => ?_⟩ | refine sv1 ?_ | refine svs ⟨?_⟩ | refine svu ⟨fun u => ?_⟩ | (refine svg (fun hg => ?_) (fun hg => ?_) <;> try (exfalso; first | omega | contradiction)) | (refine svc (fun hc => ?_) (fun hc => ?_) <;> try (exfalso; first | omega | contradiction)) | refine sv2 ?_ | refine svh (fun hb => ?_) (fun hb => ?_) | refine svb (fun b => ?_) | refine sva ?_ | refine sv3 ?_))
  rename_i b5 b6 b7 b9 b11
  revert b; intro b12
  have lv := fun x L h m1 m2 m3 m4 (hp : Pth up x L) => lives_c k up own saved b9 b11 b5 b12 h m1 m2 m3 m4 hp
  refine W.nil_ 5 52 ?_
  refine W.loop (J := fun x : Nat × Value => ⟨112, [(29, .val (.int .i64 ((x.1 : Nat)))), (13, .val x.2), (28, .val (.int .i64 ((saved.length : Nat)))), (27, .ro 1 (ints .u32 (saved))), (12, .val (.pointer (some ⟨b12, 0, none⟩))), (10, .val (.slice none 0 0)), (9, .val (.pointer (some ⟨b9, 0, none⟩))), (6, .val (.pointer (some ⟨b6, 0, none⟩))), (5, .val (.pointer (some ⟨b5, 0, none⟩)))], .own x.2 5 ((resF up t own saved R (saved.take x.1)).map MV.enc) 52 :: .box b12 [.clo (.func 32) [.val (.pointer (some ⟨b9, 0, none⟩)), .val (.pointer (some ⟨b11, 0, none⟩)), .val (.pointer (some ⟨b5, 0, none⟩)), .val (.pointer (some ⟨b12, 0, none⟩))]] 88 :: .box b11 [.ro 1 (ints .u32 (saved))] 36 :: .box b9 [.ro 1 (ints .u32 (own))] 36 :: .box b6 [mapV .u32 vBox t] 31 :: .box b5 [mapV .u32 vIds k, mapV .u32 (vI .u32) up] 28 :: h⟩)
    (Φ := fun x => x.1 ≤ saved.length) (μ := fun x => saved.length - x.1) (0, .slice none 0 0) ⟨rfl, (by repeat (first | exact LeT.nil | refine LeT.cons rfl ?_ | refine LeT.consw rfl (by (repeat (first | exact Wk.refl _ | exact Wk.nilr _ | exact Wk.nilm | apply Wk.aggc | apply Wk.tupc | exact Wk.aggn | exact Wk.tupn)); first | done | fail) ?_)), (by repeat (first | exact LeH.refl _ | exact LeH.nil _ | refine LeH.cons (by (fail_if_success (apply tkG)); (repeat (first | exact Tk.here | apply Tk.there)); first | done | fail) ?_ | refine LeH.boxw (by (fail_if_success (apply tkG)); (repeat (first | exact Tk.here | apply Tk.there)); first | done | fail) (by (repeat (first | exact Wk.refl _ | exact Wk.nilr _ | exact Wk.nilm | apply Wk.aggc | apply Wk.tupc | exact Wk.aggn | exact Wk.tupn)); first | done | fail) ?_ | refine LeH.skip ?_))⟩ (Nat.zero_le _) ?_
  rintro ⟨i, v⟩ hi
  dsimp only at hi ⊢
  rcases Nat.lt_or_ge i saved.length with hlt | hge
  · obtain ⟨id, ha⟩ : ∃ a, saved[i]? = some a := ⟨_, List.getElem?_eq_getElem hlt⟩
    have hP := hP id (List.mem_of_getElem? ha)
    have hs := resF_snoc up t own saved R (saved.take i) id
    rw [show saved.take i ++ [id] = saved.take (i + 1) by rw [List.take_add_one, ha]; rfl] at hs
    have hlr : (resF up t own saved R (saved.take i)).length ≤ 100000 := by
      have h1 := List.length_filterMap_le (mvS up t own saved R) (saved.take i)
      rw [List.length_take] at h1
      unfold resF; omega
    generalize resF up t own saved R (saved.take i) = M0 at *
    have pc := fun h => parent_c k up id h
    unfold mvS at hs
    unfold encT at *
    cases hu : lkF up id with
    | none =>
      rw [hu] at pc hs
      simp only [Option.bind_none, Option.toList_none, List.append_nil] at hs
      (repeat' (first | (refine iS ?_; refine iMu ?_; refine S.mapU ?_) | refine svz ⟨fun b hq => ?_⟩ | refine sv1 ?_ | refine svs ⟨?_⟩ | refine svu ⟨fun u => ?_⟩ | (refine svg (fun hg => ?_) (fun hg => ?_) <;> try (exfalso; first | omega | contradiction)) | (refine svc (fun hc => ?_) (fun hc => ?_) <;> try (exfalso; first | omega | contradiction)) | refine sv2 ?_ | refine svh (fun hb => ?_) (fun hb => ?_) | refine svb (fun b => ?_) | refine sva ?_ | refine sv3 ?_))
      refine S.call ?_; refine (pc _).mono ?_; rintro r h' ⟨rfl, hh⟩; subst hh
      (repeat' (first | (refine iS ?_; refine iMu ?_; refine S.mapU ?_) | refine svz ⟨fun b hq => ?_⟩ | refine sv1 ?_ | refine svs ⟨?_⟩ | refine svu ⟨fun u => ?_⟩ | (refine svg (fun hg => ?_) (fun hg => ?_) <;> try (exfalso; first | omega | contradiction)) | (refine svc (fun hc => ?_) (fun hc => ?_) <;> try (exfalso; first | omega | contradiction)) | refine sv2 ?_ | refine svh (fun hb => ?_) (fun hb => ?_) | refine svb (fun b => ?_) | refine sva ?_ | refine sv3 ?_))
      exact ⟨(i + 1, v), hlt, by dsimp only; rw [hs]; exact ⟨rfl, (by repeat (first | exact LeT.nil | refine LeT.cons rfl ?_ | refine LeT.consw rfl (by (repeat (first | exact Wk.refl _ | exact Wk.nilr _ | exact Wk.nilm | apply Wk.aggc | apply Wk.tupc | exact Wk.aggn | exact Wk.tupn)); first | done | fail) ?_)), (by repeat (first | exact LeH.refl _ | exact LeH.nil _ | refine LeH.cons (by (fail_if_success (apply tkG)); (repeat (first | exact Tk.here | apply Tk.there)); first | done | fail) ?_ | refine LeH.boxw (by (fail_if_success (apply tkG)); (repeat (first | exact Tk.here | apply Tk.there)); first | done | fail) (by (repeat (first | exact Wk.refl _ | exact Wk.nilr _ | exact Wk.nilm | apply Wk.aggc | apply Wk.tupc | exact Wk.aggn | exact Wk.tupn)); first | done | fail) ?_ | refine LeH.skip ?_))⟩, by dsimp only; omega⟩
    | some p =>
      obtain ⟨h1, hpp, hpl, hpb⟩ := hP p hu
      rw [hu] at pc hs
      simp only [Option.bind_some] at hs
      have ct := fun h => contains_c own id h
      have hpth : Pth up id (p :: R p) := .up h1 hu hpp
      generalize R p = T0 at *
      unfold mvF at hs
      by_cases h3 : id ∈ own
      · rw [if_pos (.inl h3), Option.toList_none, List.append_nil] at hs
        rw [decide_eq_true h3] at ct
        (repeat' (first | (refine iS ?_; refine iMu ?_; refine S.mapU ?_) | refine svz ⟨fun b hq => ?_⟩ | refine sv1 ?_ | refine svs ⟨?_⟩ | refine svu ⟨fun u => ?_⟩ | (refine svg (fun hg => ?_) (fun hg => ?_) <;> try (exfalso; first | omega | contradiction)) | (refine svc (fun hc => ?_) (fun hc => ?_) <;> try (exfalso; first | omega | contradiction)) | refine sv2 ?_ | refine svh (fun hb => ?_) (fun hb => ?_) | refine svb (fun b => ?_) | refine sva ?_ | refine sv3 ?_))
        refine S.call ?_; refine (pc _).mono ?_; rintro r h' ⟨rfl, hh⟩; subst hh
        (repeat' (first | (refine iS ?_; refine iMu ?_; refine S.mapU ?_) | refine svz ⟨fun b hq => ?_⟩ | refine sv1 ?_ | refine svs ⟨?_⟩ | refine svu ⟨fun u => ?_⟩ | (refine svg (fun hg => ?_) (fun hg => ?_) <;> try (exfalso; first | omega | contradiction)) | (refine svc (fun hc => ?_) (fun hc => ?_) <;> try (exfalso; first | omega | contradiction)) | refine sv2 ?_ | refine svh (fun hb => ?_) (fun hb => ?_) | refine svb (fun b => ?_) | refine sva ?_ | refine sv3 ?_))
        refine S.call ?_; refine (ct _).mono ?_; rintro r h' ⟨rfl, hh⟩; subst hh
        (repeat' (first | (refine iS ?_; refine iMu ?_; refine S.mapU ?_) | refine svz ⟨fun b hq => ?_⟩ | refine sv1 ?_ | refine svs ⟨?_⟩ | refine svu ⟨fun u => ?_⟩ | (refine svg (fun hg => ?_) (fun hg => ?_) <;> try (exfalso; first | omega | contradiction)) | (refine svc (fun hc => ?_) (fun hc => ?_) <;> try (exfalso; first | omega | contradiction)) | refine sv2 ?_ | refine svh (fun hb => ?_) (fun hb => ?_) | refine svb (fun b => ?_) | refine sva ?_ | refine sv3 ?_))
        exact ⟨(i + 1, v), hlt, by dsimp only; rw [hs]; exact ⟨rfl, (by repeat (first | exact LeT.nil | refine LeT.cons rfl ?_ | refine LeT.consw rfl (by (repeat (first | exact Wk.refl _ | exact Wk.nilr _ | exact Wk.nilm | apply Wk.aggc | apply Wk.tupc | exact Wk.aggn | exact Wk.tupn)); first | done | fail) ?_)), (by repeat (first | exact LeH.refl _ | exact LeH.nil _ | refine LeH.cons (by (fail_if_success (apply tkG)); (repeat (first | exact Tk.here | apply Tk.there)); first | done | fail) ?_ | refine LeH.boxw (by (fail_if_success (apply tkG)); (repeat (first | exact Tk.here | apply Tk.there)); first | done | fail) (by (repeat (first | exact Wk.refl _ | exact Wk.nilr _ | exact Wk.nilm | apply Wk.aggc | apply Wk.tupc | exact Wk.aggn | exact Wk.tupn)); first | done | fail) ?_ | refine LeH.skip ?_))⟩, by dsimp only; omega⟩
      rw [decide_eq_false h3] at ct
      have lp := fun h m1 m2 m3 m4 => lv p T0 h m1 m2 m3 m4 hpp
      cases h4 : livesL own saved (p :: T0) with
      | true =>
        rw [if_pos (.inr h4), Option.toList_none, List.append_nil] at hs
        rw [h4] at lp
        (repeat' (first | (refine iS ?_; refine iMu ?_; refine S.mapU ?_) | refine svz ⟨fun b hq => ?_⟩ | refine sv1 ?_ | refine svs ⟨?_⟩ | refine svu ⟨fun u => ?_⟩ | (refine svg (fun hg => ?_) (fun hg => ?_) <;> try (exfalso; first | omega | contradiction)) | (refine svc (fun hc => ?_) (fun hc => ?_) <;> try (exfalso; first | omega | contradiction)) | refine sv2 ?_ | refine svh (fun hb => ?_) (fun hb => ?_) | refine svb (fun b => ?_) | refine sva ?_ | refine sv3 ?_))
        refine S.call ?_; refine (pc _).mono ?_; rintro r h' ⟨rfl, hh⟩; subst hh
        (repeat' (first | (refine iS ?_; refine iMu ?_; refine S.mapU ?_) | refine svz ⟨fun b hq => ?_⟩ | refine sv1 ?_ | refine svs ⟨?_⟩ | refine svu ⟨fun u => ?_⟩ | (refine svg (fun hg => ?_) (fun hg => ?_) <;> try (exfalso; first | omega | contradiction)) | (refine svc (fun hc => ?_) (fun hc => ?_) <;> try (exfalso; first | omega | contradiction)) | refine sv2 ?_ | refine svh (fun hb => ?_) (fun hb => ?_) | refine svb (fun b => ?_) | refine sva ?_ | refine sv3 ?_))
        refine S.call ?_; refine (ct _).mono ?_; rintro r h' ⟨rfl, hh⟩; subst hh
        (repeat' (first | (refine iS ?_; refine iMu ?_; refine S.mapU ?_) | refine svz ⟨fun b hq => ?_⟩ | refine sv1 ?_ | refine svs ⟨?_⟩ | refine svu ⟨fun u => ?_⟩ | (refine svg (fun hg => ?_) (fun hg => ?_) <;> try (exfalso; first | omega | contradiction)) | (refine svc (fun hc => ?_) (fun hc => ?_) <;> try (exfalso; first | omega | contradiction)) | refine sv2 ?_ | refine svh (fun hb => ?_) (fun hb => ?_) | refine svb (fun b => ?_) | refine sva ?_ | refine sv3 ?_))
        refine S.callv (.clo 32 [.val (.pointer (some ⟨b9, 0, none⟩)), .val (.pointer (some ⟨b11, 0, none⟩)), .val (.pointer (some ⟨b5, 0, none⟩)), .val (.pointer (some ⟨b12, 0, none⟩))]) ((lp _ (by (fail_if_success (apply memG)); repeat (first | exact List.Mem.head _ | assumption | refine List.Mem.tail _ ?_)) (by (fail_if_success (apply memG)); repeat (first | exact List.Mem.head _ | assumption | refine List.Mem.tail _ ?_)) (by (fail_if_success (apply memG)); repeat (first | exact List.Mem.head _ | assumption | refine List.Mem.tail _ ?_)) (by (fail_if_success (apply memG)); repeat (first | exact List.Mem.head _ | assumption | refine List.Mem.tail _ ?_))).mono ?_)
        rintro r h' ⟨rfl, hh⟩
        subst hh
        (repeat' (first | (refine iS ?_; refine iMu ?_; refine S.mapU ?_) | refine svz ⟨fun b hq => ?_⟩ | refine sv1 ?_ | refine svs ⟨?_⟩ | refine svu ⟨fun u => ?_⟩ | (refine svg (fun hg => ?_) (fun hg => ?_) <;> try (exfalso; first | omega | contradiction)) | (refine svc (fun hc => ?_) (fun hc => ?_) <;> try (exfalso; first | omega | contradiction)) | refine sv2 ?_ | refine svh (fun hb => ?_) (fun hb => ?_) | refine svb (fun b => ?_) | refine sva ?_ | refine sv3 ?_))
        exact ⟨(i + 1, v), hlt, by dsimp only; rw [hs]; exact ⟨rfl, (by repeat (first | exact LeT.nil | refine LeT.cons rfl ?_ | refine LeT.consw rfl (by (repeat (first | exact Wk.refl _ | exact Wk.nilr _ | exact Wk.nilm | apply Wk.aggc | apply Wk.tupc | exact Wk.aggn | exact Wk.tupn)); first | done | fail) ?_)), (by repeat (first | exact LeH.refl _ | exact LeH.nil _ | refine LeH.cons (by (fail_if_success (apply tkG)); (repeat (first | exact Tk.here | apply Tk.there)); first | done | fail) ?_ | refine LeH.boxw (by (fail_if_success (apply tkG)); (repeat (first | exact Tk.here | apply Tk.there)); first | done | fail) (by (repeat (first | exact Wk.refl _ | exact Wk.nilr _ | exact Wk.nilm | apply Wk.aggc | apply Wk.tupc | exact Wk.aggn | exact Wk.tupn)); first | done | fail) ?_ | refine LeH.skip ?_))⟩, by dsimp only; omega⟩
      | false =>
        rw [if_neg (by rw [h4]; exact fun q => q.elim h3 (fun q => by cases q)), Option.toList_some] at hs
        rw [h4] at lp
        obtain ⟨b0, hb0⟩ := hpb id (by simp)
        have bc := fun h => pbox_c t id b0 h hb0
        have oc2 := fun h => origin_c k up t id (p :: T0) h hpth (by simp; omega) hpb hx
        rw [show bxF t id = b0 by unfold bxF; rw [hb0]; rfl] at hs
        have hd1 := (sumX_bd hx (id :: p :: T0))
        have hd2 := (sumX_bd hx (dropL own saved (p :: T0)))
        have hd3 := dropL_len own saved (p :: T0)
        simp only [List.length_cons] at hd1 hd3
        generalize sumX t (id :: p :: T0) = sx at *
        generalize sumY t (id :: p :: T0) = sy at *
        unfold encT encP at *
        (repeat' (first | (refine iS ?_; refine iMu ?_; refine S.mapU ?_) | refine svz ⟨fun b hq => ?_⟩ | refine sv1 ?_ | refine svs ⟨?_⟩ | refine svu ⟨fun u => ?_⟩ | (refine svg (fun hg => ?_) (fun hg => ?_) <;> try (exfalso; first | omega | contradiction)) | (refine svc (fun hc => ?_) (fun hc => ?_) <;> try (exfalso; first | omega | contradiction)) | refine sv2 ?_ | refine svh (fun hb => ?_) (fun hb => ?_) | refine svb (fun b => ?_) | refine sva ?_ | refine sv3 ?_))
        refine S.call ?_; refine (pc _).mono ?_; rintro r h' ⟨rfl, hh⟩; subst hh
        (repeat' (first | (refine iS ?_; refine iMu ?_; refine S.mapU ?_) | refine svz ⟨fun b hq => ?_⟩ | refine sv1 ?_ | refine svs ⟨?_⟩ | refine svu ⟨fun u => ?_⟩ | (refine svg (fun hg => ?_) (fun hg => ?_) <;> try (exfalso; first | omega | contradiction)) | (refine svc (fun hc => ?_) (fun hc => ?_) <;> try (exfalso; first | omega | contradiction)) | refine sv2 ?_ | refine svh (fun hb => ?_) (fun hb => ?_) | refine svb (fun b => ?_) | refine sva ?_ | refine sv3 ?_))
        refine S.call ?_; refine (ct _).mono ?_; rintro r h' ⟨rfl, hh⟩; subst hh
        (repeat' (first | (refine iS ?_; refine iMu ?_; refine S.mapU ?_) | refine svz ⟨fun b hq => ?_⟩ | refine sv1 ?_ | refine svs ⟨?_⟩ | refine svu ⟨fun u => ?_⟩ | (refine svg (fun hg => ?_) (fun hg => ?_) <;> try (exfalso; first | omega | contradiction)) | (refine svc (fun hc => ?_) (fun hc => ?_) <;> try (exfalso; first | omega | contradiction)) | refine sv2 ?_ | refine svh (fun hb => ?_) (fun hb => ?_) | refine svb (fun b => ?_) | refine sva ?_ | refine sv3 ?_))
        refine S.callv (.clo 32 [.val (.pointer (some ⟨b9, 0, none⟩)), .val (.pointer (some ⟨b11, 0, none⟩)), .val (.pointer (some ⟨b5, 0, none⟩)), .val (.pointer (some ⟨b12, 0, none⟩))]) ((lp _ (by (fail_if_success (apply memG)); repeat (first | exact List.Mem.head _ | assumption | refine List.Mem.tail _ ?_)) (by (fail_if_success (apply memG)); repeat (first | exact List.Mem.head _ | assumption | refine List.Mem.tail _ ?_)) (by (fail_if_success (apply memG)); repeat (first | exact List.Mem.head _ | assumption | refine List.Mem.tail _ ?_)) (by (fail_if_success (apply memG)); repeat (first | exact List.Mem.head _ | assumption | refine List.Mem.tail _ ?_))).mono ?_)
        rintro r h' ⟨rfl, hh⟩
        subst hh
        (repeat' (first | (refine iS ?_; refine iMu ?_; refine S.mapU ?_) | refine svz ⟨fun b hq => ?_⟩ | refine sv1 ?_ | refine svs ⟨?_⟩ | refine svu ⟨fun u => ?_⟩ | (refine svg (fun hg => ?_) (fun hg => ?_) <;> try (exfalso; first | omega | contradiction)) | (refine svc (fun hc => ?_) (fun hc => ?_) <;> try (exfalso; first | omega | contradiction)) | refine sv2 ?_ | refine svh (fun hb => ?_) (fun hb => ?_) | refine svb (fun b => ?_) | refine sva ?_ | refine sv3 ?_))
        refine S.call ?_; refine (bc _).mono ?_; rintro r h' ⟨rfl, hh⟩; subst hh
        (repeat' (first | (refine iS ?_; refine iMu ?_; refine S.mapU ?_) | refine svz ⟨fun b hq => ?_⟩ | refine sv1 ?_ | refine svs ⟨?_⟩ | refine svu ⟨fun u => ?_⟩ | (refine svg (fun hg => ?_) (fun hg => ?_) <;> try (exfalso; first | omega | contradiction)) | (refine svc (fun hc => ?_) (fun hc => ?_) <;> try (exfalso; first | omega | contradiction)) | refine sv2 ?_ | refine svh (fun hb => ?_) (fun hb => ?_) | refine svb (fun b => ?_) | refine sva ?_ | refine sv3 ?_))
        revert b; intro b18
        refine S.call ?_; refine (oc2 _).mono ?_; rintro r h' ⟨rfl, hh⟩; subst hh
        (repeat' (first | (refine iS ?_; refine iMu ?_; refine S.mapU ?_) | refine svz ⟨fun b hq => ?_⟩ | refine sv1 ?_ | refine svs ⟨?_⟩ | refine svu ⟨fun u => ?_⟩ | (refine svg (fun hg => ?_) (fun hg => ?_) <;> try (exfalso; first | omega | contradiction)) | (refine svc (fun hc => ?_) (fun hc => ?_) <;> try (exfalso; first | omega | contradiction)) | refine sv2 ?_ | refine svh (fun hb => ?_) (fun hb => ?_) | refine svb (fun b => ?_) | refine sva ?_ | refine sv3 ?_))
        revert b; intro b20
        refine W.loop (J := fun x : Int × List Int => ⟨112, [(16, .val (.int .u32 (x.1))), (15, .val (.int .u32 (id))), (20, .val (.pointer (some ⟨b20, 0, none⟩))), (18, .val (.pointer (some ⟨b18, 0, none⟩))), (29, .val (.int .i64 ((i : Nat)))), (13, .val v), (28, .val (.int .i64 ((saved.length : Nat)))), (27, .ro 1 (ints .u32 (saved))), (12, .val (.pointer (some ⟨b12, 0, none⟩))), (10, .val (.slice none 0 0)), (9, .val (.pointer (some ⟨b9, 0, none⟩))), (6, .val (.pointer (some ⟨b6, 0, none⟩))), (5, .val (.pointer (some ⟨b5, 0, none⟩)))], .box b20 [.val (.int .i64 (sx)), .val (.int .i64 (sy))] 80 :: .box b18 (vBox b0).cells 74 :: .own v 5 (M0.map MV.enc) 52 :: .box b12 [.clo (.func 32) [.val (.pointer (some ⟨b9, 0, none⟩)), .val (.pointer (some ⟨b11, 0, none⟩)), .val (.pointer (some ⟨b5, 0, none⟩)), .val (.pointer (some ⟨b12, 0, none⟩))]] 88 :: .box b11 [.ro 1 (ints .u32 (saved))] 36 :: .box b9 [.ro 1 (ints .u32 (own))] 36 :: .box b6 [mapV .u32 vBox t] 31 :: .box b5 [mapV .u32 vIds k, mapV .u32 (vI .u32) up] 28 :: h⟩)
          (Φ := fun x => Pth up x.1 x.2 ∧ dropL own saved (x.1 :: x.2) = dropL own saved (p :: T0) ∧ x.2.length ≤ 900 ∧ ∀ w ∈ x.1 :: x.2, ∃ b, lkF t w = some b) (μ := fun x => x.2.length) (p, T0) ⟨rfl, (by repeat (first | exact LeT.nil | refine LeT.cons rfl ?_ | refine LeT.consw rfl (by (repeat (first | exact Wk.refl _ | exact Wk.nilr _ | exact Wk.nilm | apply Wk.aggc | apply Wk.tupc | exact Wk.aggn | exact Wk.tupn)); first | done | fail) ?_)), (by repeat (first | exact LeH.refl _ | exact LeH.nil _ | refine LeH.cons (by (fail_if_success (apply tkG)); (repeat (first | exact Tk.here | apply Tk.there)); first | done | fail) ?_ | refine LeH.boxw (by (fail_if_success (apply tkG)); (repeat (first | exact Tk.here | apply Tk.there)); first | done | fail) (by (repeat (first | exact Wk.refl _ | exact Wk.nilr _ | exact Wk.nilm | apply Wk.aggc | apply Wk.tupc | exact Wk.aggn | exact Wk.tupn)); first | done | fail) ?_ | refine LeH.skip ?_))⟩ ⟨hpp, rfl, hpl, fun w hw => hpb w (List.mem_cons_of_mem _ hw)⟩ ?_
        rintro ⟨q, L⟩ ⟨hq, hdq, hql, hqb⟩
        dsimp only at hq hdq hql hqb ⊢
        have lq := fun h m1 m2 m3 m4 => lv q L h m1 m2 m3 m4 hq
        have ql := fun h => parent_c k up q h
        cases h5 : livesL own saved (q :: L) with
        | false =>
          rw [h5] at lq
          rw [dropL_miss h5] at hdq
          cases hq with
          | root => rw [livesL_root] at h5; cases h5
          | @up _ q2 L2 g1 g2 gr =>
            rw [g2] at ql
            dsimp only [Option.getD_some] at ql
            unfold encT at ql
            have hq20 : q2 ≠ 0 := by
              intro e
              subst e
              cases gr with
              | up _ g _ => rw [h0] at g; cases g
            (repeat' (first | (refine iS ?_; refine iMu ?_; refine S.mapU ?_) | refine svz ⟨fun b hq => ?_⟩ | refine sv1 ?_ | refine svs ⟨?_⟩ | refine svu ⟨fun u => ?_⟩ | (refine svg (fun hg => ?_) (fun hg => ?_) <;> try (exfalso; first | omega | contradiction)) | (refine svc (fun hc => ?_) (fun hc => ?_) <;> try (exfalso; first | omega | contradiction)) | refine sv2 ?_ | refine svh (fun hb => ?_) (fun hb => ?_) | refine svb (fun b => ?_) | refine sva ?_ | refine sv3 ?_))
            refine S.callv (.clo 32 [.val (.pointer (some ⟨b9, 0, none⟩)), .val (.pointer (some ⟨b11, 0, none⟩)), .val (.pointer (some ⟨b5, 0, none⟩)), .val (.pointer (some ⟨b12, 0, none⟩))]) ((lq _ (by (fail_if_success (apply memG)); repeat (first | exact List.Mem.head _ | assumption | refine List.Mem.tail _ ?_)) (by (fail_if_success (apply memG)); repeat (first | exact List.Mem.head _ | assumption | refine List.Mem.tail _ ?_)) (by (fail_if_success (apply memG)); repeat (first | exact List.Mem.head _ | assumption | refine List.Mem.tail _ ?_)) (by (fail_if_success (apply memG)); repeat (first | exact List.Mem.head _ | assumption | refine List.Mem.tail _ ?_))).mono ?_)
            rintro r h' ⟨rfl, hh⟩
            subst hh
            (repeat' (first | (refine iS ?_; refine iMu ?_; refine S.mapU ?_) | refine svz ⟨fun b hq => ?_⟩ | refine sv1 ?_ | refine svs ⟨?_⟩ | refine svu ⟨fun u => ?_⟩ | (refine svg (fun hg => ?_) (fun hg => ?_) <;> try (exfalso; first | omega | contradiction)) | (refine svc (fun hc => ?_) (fun hc => ?_) <;> try (exfalso; first | omega | contradiction)) | refine sv2 ?_ | refine svh (fun hb => ?_) (fun hb => ?_) | refine svb (fun b => ?_) | refine sva ?_ | refine sv3 ?_))
            refine S.call ?_; refine (ql _).mono ?_; rintro r h' ⟨rfl, hh⟩; subst hh
            (repeat' (first | (refine iS ?_; refine iMu ?_; refine S.mapU ?_) | refine svz ⟨fun b hq => ?_⟩ | refine sv1 ?_ | refine svs ⟨?_⟩ | refine svu ⟨fun u => ?_⟩ | (refine svg (fun hg => ?_) (fun hg => ?_) <;> try (exfalso; first | omega | contradiction)) | (refine svc (fun hc => ?_) (fun hc => ?_) <;> try (exfalso; first | omega | contradiction)) | refine sv2 ?_ | refine svh (fun hb => ?_) (fun hb => ?_) | refine svb (fun b => ?_) | refine sva ?_ | refine sv3 ?_))
            exact ⟨(q2, L2), ⟨gr, hdq, by simp at hql; dsimp only; omega, fun w hw => hqb w (List.mem_cons_of_mem _ hw)⟩, ⟨rfl, (by repeat (first | exact LeT.nil | refine LeT.cons rfl ?_ | refine LeT.consw rfl (by (repeat (first | exact Wk.refl _ | exact Wk.nilr _ | exact Wk.nilm | apply Wk.aggc | apply Wk.tupc | exact Wk.aggn | exact Wk.tupn)); first | done | fail) ?_)), (by repeat (first | exact LeH.refl _ | exact LeH.nil _ | refine LeH.cons (by (fail_if_success (apply tkG)); (repeat (first | exact Tk.here | apply Tk.there)); first | done | fail) ?_ | refine LeH.boxw (by (fail_if_success (apply tkG)); (repeat (first | exact Tk.here | apply Tk.there)); first | done | fail) (by (repeat (first | exact Wk.refl _ | exact Wk.nilr _ | exact Wk.nilm | apply Wk.aggc | apply Wk.tupc | exact Wk.aggn | exact Wk.tupn)); first | done | fail) ?_ | refine LeH.skip ?_))⟩, by dsimp only; simp⟩
        | true =>
          rw [h5] at lq
          rw [dropL_hit h5] at hdq
          have oq := fun h => origin_c k up t q L h hq (by omega) hqb hx
          rw [← hdq] at hs hd2
          simp only [List.headD_cons] at hs
          have hd4 : (q :: L).length ≤ 901 := by simp; omega
          generalize sumX t (q :: L) = ux at *
          generalize sumY t (q :: L) = uy at *
          unfold encT encP at oq
          (repeat' (first | (refine iS ?_; refine iMu ?_; refine S.mapU ?_) | refine svz ⟨fun b hq => ?_⟩ | refine sv1 ?_ | refine svs ⟨?_⟩ | refine svu ⟨fun u => ?_⟩ | (refine svg (fun hg => ?_) (fun hg => ?_) <;> try (exfalso; first | omega | contradiction)) | (refine svc (fun hc => ?_) (fun hc => ?_) <;> try (exfalso; first | omega | contradiction)) | refine sv2 ?_ | refine svh (fun hb => ?_) (fun hb => ?_) | refine svb (fun b => ?_) | refine sva ?_ | refine sv3 ?_))
          refine S.callv (.clo 32 [.val (.pointer (some ⟨b9, 0, none⟩)), .val (.pointer (some ⟨b11, 0, none⟩)), .val (.pointer (some ⟨b5, 0, none⟩)), .val (.pointer (some ⟨b12, 0, none⟩))]) ((lq _ (by (fail_if_success (apply memG)); repeat (first | exact List.Mem.head _ | assumption | refine List.Mem.tail _ ?_)) (by (fail_if_success (apply memG)); repeat (first | exact List.Mem.head _ | assumption | refine List.Mem.tail _ ?_)) (by (fail_if_success (apply memG)); repeat (first | exact List.Mem.head _ | assumption | refine List.Mem.tail _ ?_)) (by (fail_if_success (apply memG)); repeat (first | exact List.Mem.head _ | assumption | refine List.Mem.tail _ ?_))).mono ?_)
          rintro r h' ⟨rfl, hh⟩
          subst hh
          (repeat' (first | (refine iS ?_; refine iMu ?_; refine S.mapU ?_) | refine svz ⟨fun b hq => ?_⟩ | refine sv1 ?_ | refine svs ⟨?_⟩ | refine svu ⟨fun u => ?_⟩ | (refine svg (fun hg => ?_) (fun hg => ?_) <;> try (exfalso; first | omega | contradiction)) | (refine svc (fun hc => ?_) (fun hc => ?_) <;> try (exfalso; first | omega | contradiction)) | refine sv2 ?_ | refine svh (fun hb => ?_) (fun hb => ?_) | refine svb (fun b => ?_) | refine sva ?_ | refine sv3 ?_))
          refine S.call ?_; refine (oq _).mono ?_; rintro r h' ⟨rfl, hh⟩; subst hh
          (repeat' (first | (refine iS ?_; refine iMu ?_; refine S.mapU ?_) | refine svz ⟨fun b hq => ?_⟩ | refine sv1 ?_ | refine svs ⟨?_⟩ | refine svu ⟨fun u => ?_⟩ | (refine svg (fun hg => ?_) (fun hg => ?_) <;> try (exfalso; first | omega | contradiction)) | (refine svc (fun hc => ?_) (fun hc => ?_) <;> try (exfalso; first | omega | contradiction)) | refine sv2 ?_ | refine svh (fun hb => ?_) (fun hb => ?_) | refine svb (fun b => ?_) | refine sva ?_ | refine sv3 ?_))
          revert b; intro b22
          unfold vBox
          (repeat' (first | (refine iS ?_; refine iMu ?_; refine S.mapU ?_) | refine svz ⟨fun b hq => ?_⟩ | refine sv1 ?_ | refine svs ⟨?_⟩ | refine svu ⟨fun u => ?_⟩ | (refine svg (fun hg => ?_) (fun hg => ?_) <;> try (exfalso; first | omega | contradiction)) | (refine svc (fun hc => ?_) (fun hc => ?_) <;> try (exfalso; first | omega | contradiction)) | refine sv2 ?_ | refine svh (fun hb => ?_) (fun hb => ?_) | refine svb (fun b => ?_) | refine sva ?_ | refine sv3 ?_))
          exact ⟨(i + 1, u), hlt, by dsimp only; rw [hs, List.map_append]; exact ⟨rfl, (by repeat (first | exact LeT.nil | refine LeT.cons rfl ?_ | refine LeT.consw rfl (by (repeat (first | exact Wk.refl _ | exact Wk.nilr _ | exact Wk.nilm | apply Wk.aggc | apply Wk.tupc | exact Wk.aggn | exact Wk.tupn)); first | done | fail) ?_)), (by repeat (first | exact LeH.refl _ | exact LeH.nil _ | refine LeH.cons (by (fail_if_success (apply tkG)); (repeat (first | exact Tk.here | apply Tk.there)); first | done | fail) ?_ | refine LeH.boxw (by (fail_if_success (apply tkG)); (repeat (first | exact Tk.here | apply Tk.there)); first | done | fail) (by (repeat (first | exact Wk.refl _ | exact Wk.nilr _ | exact Wk.nilm | apply Wk.aggc | apply Wk.tupc | exact Wk.aggn | exact Wk.tupn)); first | done | fail) ?_ | refine LeH.skip ?_))⟩, by dsimp only; omega⟩
  · rw [List.take_of_length_le hge]
    (repeat' (first | (refine iS ?_; refine iMu ?_; refine S.mapU ?_) | refine svz ⟨fun b hq => ?_⟩ | refine sv1 ?_ | refine svs ⟨?_⟩ | refine svu ⟨fun u => ?_⟩ | (refine svg (fun hg => ?_) (fun hg => ?_) <;> try (exfalso; first | omega | contradiction)) | (refine svc (fun hc => ?_) (fun hc => ?_) <;> try (exfalso; first | omega | contradiction)) | refine sv2 ?_ | refine svh (fun hb => ?_) (fun hb => ?_) | refine svb (fun b => ?_) | refine sva ?_ | refine sv3 ?_))
    exact fin_r (h' := .own v 5 ((resF up t own saved R saved).map MV.enc) 52 :: h) ⟨v, rfl, rfl⟩
end Go.Proofs.Ytkpbbiknhhmfiaa
