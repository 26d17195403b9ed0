/- Plain: the moves, done one behind the other. No condition. -/
import Derived.Test.YtkpbbiknhhmfiaaQ19
import Derived.Test.YtkpbbiknhhmfiaaQ22
namespace Go.Proofs.Ytkpbbiknhhmfiaa
open Go Go.VM
set_option linter.unusedVariables false
set_option linter.unusedSimpArgs false
set_option maxHeartbeats 4000000
theorem dropL_hd {own saved : List Int} {up : UP} {id : Int} {L : List Int} (h : Pth up id L) : ∃ to T, dropL own saved (id :: L) = to :: T ∧ Pth up to T ∧ livesL own saved (to :: T) = true ∧ (to :: T) <:+ (id :: L) := by
  induction h with
  | root => exact ⟨1, [], dropL_hit (livesL_root _ _ _), .root, livesL_root _ _ _, List.suffix_refl _⟩
  | @up id p R h1 h2 r ih =>
    cases hl : livesL own saved (id :: p :: R) with
    | true => exact ⟨id, p :: R, dropL_hit hl, .up h1 h2 r, hl, List.suffix_refl _⟩
    | false =>
      obtain ⟨to, T, e1, e2, e3, e4⟩ := ih
      exact ⟨to, T, by rw [dropL_miss hl, e1], e2, e3, e4.trans (List.suffix_cons _ _)⟩
theorem sum_bd {t : PT} {B : Int} (hB : 0 ≤ B) (hx : ∀ w b, lkF t w = some b → (-B ≤ b.x ∧ b.x ≤ B) ∧ -B ≤ b.y ∧ b.y ≤ B) : ∀ L, (-(B * (L.length : Int)) ≤ sumX t L ∧ sumX t L ≤ B * (L.length : Int)) ∧ -(B * (L.length : Int)) ≤ sumY t L ∧ sumY t L ≤ B * (L.length : Int)
  | [] => by simp [sumX, sumY]
  | w :: L => by
    have ih := sum_bd hB hx L
    have hb : (-B ≤ (bxF t w).x ∧ (bxF t w).x ≤ B) ∧ -B ≤ (bxF t w).y ∧ (bxF t w).y ≤ B := by
      unfold bxF
      cases e : lkF t w with
      | none => simp only [Option.getD_none]; omega
      | some b => exact hx w b e
    unfold sumX sumY
    rw [List.length_cons, show B * ((L.length + 1 : Nat) : Int) = B * (L.length : Int) + B by push_cast; rw [Int.mul_add, Int.mul_one]]
    generalize B * (L.length : Int) = q at *
    split <;> omega
/-- A tree with places, saved windows and those of a client's own. -/
structure LV (N : Nat) (up : UP) (pt : PT) (own sv : List Int) : Prop where
  wf : Wf N up
  hN : N ≤ 12
  box : ∀ n, n ≤ N → ∃ b, lkF pt (idF n) = some b
  form : ∀ n, 0 < n → n ≤ N → ∃ x y m, lkF pt (idF n) = some ⟨x, y, 5, 5, m, 0⟩
  bd : ∀ w b, lkF pt w = some b → (-128 ≤ b.x ∧ b.x ≤ 128) ∧ -128 ≤ b.y ∧ b.y ≤ 128
  len : pt.length ≤ 13
  ne : pt ≠ []
  own1 : (1 : Int) ∉ own
  svo : ∀ id ∈ sv, id ∉ own
  svk : ∀ id ∈ sv, ∃ p, lkF up id = some p
structure MvSpec (N : Nat) (up : UP) (pt : PT) (own sv : List Int) (m : MV) : Prop where
  mem : m.id ∈ sv
  eq : mvS up pt own sv (rP up) m.id = some m
  idx : ∃ n q, 0 < n ∧ n ≤ N ∧ q < n ∧ m.id = idF n ∧ m.to = idF q
  val : ∃ p, lkF up m.id = some p ∧ m.x = sumX pt (m.id :: p :: rP up p) - sumX pt (m.to :: rP up m.to) ∧ m.y = sumY pt (m.id :: p :: rP up p) - sumY pt (m.to :: rP up m.to)
  to : livesL own sv (m.to :: rP up m.to) = true
  bd : (-4000 ≤ m.x ∧ m.x ≤ 4000) ∧ -4000 ≤ m.y ∧ m.y ≤ 4000
theorem Wf.par {N : Nat} {up : UP} (w : Wf N up) (hN : N ≤ 1000) {id p : Int} (h : lkF up id = some p) : ∃ n q, 0 < n ∧ n ≤ N ∧ q < n ∧ id = idF n ∧ p = idF q ∧ Pth up p (rP up p) ∧ (rP up p).length ≤ q ∧ ∀ x ∈ rP up p, ∃ r, r < q ∧ x = idF r := by
  obtain ⟨n, h1, h2, rfl⟩ := w.only id p h
  obtain ⟨q, h3, h4⟩ := w.tot n h1 h2
  rw [h] at h4
  injection h4 with h4
  subst h4
  obtain ⟨L, q1, q2, q3⟩ := w.pth hN q (by omega)
  rw [rP_eq q1]
  exact ⟨n, q, h1, h2, h3, rfl, rfl, q1, q2, q3⟩
theorem LV.spec {N : Nat} {up : UP} {pt : PT} {own sv : List Int} (v : LV N up pt own sv) {m : MV} (hm : m ∈ resF up pt own sv (rP up) sv) : MvSpec N up pt own sv m := by
  obtain ⟨id, hid, he⟩ := List.mem_filterMap.1 hm
  have he0 := he
  unfold mvS at he
  cases hu : lkF up id with
  | none => rw [hu] at he; cases he
  | some p =>
    rw [hu] at he
    have he : mvF pt own sv id (p :: rP up p) = some m := he
    unfold mvF at he
    split at he
    · cases he
    · rename_i hn
      injection he with he
      have hN := v.hN
      obtain ⟨n, q, h1, h2, h3, e1, e2, hpth, hlen, hidx⟩ := v.wf.par (by omega) hu
      obtain ⟨to, T, d1, d2, d3, d4⟩ := dropL_hd (own := own) (saved := sv) hpth
      have hto : ∃ r, r < n ∧ to = idF r := by
        have : to ∈ p :: rP up p := d4.subset (List.mem_cons_self ..)
        rcases List.mem_cons.1 this with e | e
        · exact ⟨q, h3, by rw [e, e2]⟩
        · obtain ⟨r, hr, e⟩ := hidx to e
          exact ⟨r, by omega, e⟩
      have hTl : (to :: T).length ≤ (p :: rP up p).length := d4.length_le
      have hT := rP_eq d2
      have b1 := sum_bd (B := 128) (by omega) v.bd (id :: p :: rP up p)
      have b2 := sum_bd (B := 128) (by omega) v.bd (to :: T)
      rw [d1] at he
      subst he
      simp only [List.headD_cons, List.length_cons] at *
      obtain ⟨r, hr, er⟩ := hto
      refine ⟨hid, he0, ⟨n, r, h1, h2, hr, e1, er⟩, ⟨p, hu, ?_, ?_⟩, ?_, ?_⟩
      · dsimp only; rw [hT]
      · dsimp only; rw [hT]
      · dsimp only; rw [hT]; exact d3
      · dsimp only; omega
/-- The state behind some of the moves. -/
structure SM (N : Nat) (up : UP) (pt : PT) (ms : List MV) (up' : UP) (pt' : PT) : Prop where
  wf : Wf N up'
  hit : ∀ m ∈ ms, lkF up' m.id = some m.to ∧ ∃ b, lkF pt' m.id = some ⟨m.x, m.y, 5, 5, b, 0⟩
  miss : ∀ id, (∀ m ∈ ms, m.id ≠ id) → lkF up' id = lkF up id ∧ lkF pt' id = lkF pt id
  form : ∀ n, 0 < n → n ≤ N → ∃ x y m, lkF pt' (idF n) = some ⟨x, y, 5, 5, m, 0⟩
  root : ∃ b, lkF pt' 1 = some b
  bd : ∀ w b, lkF pt' w = some b → (-4000 ≤ b.x ∧ b.x ≤ 4000) ∧ -4000 ≤ b.y ∧ b.y ≤ 4000
  len : pt'.length ≤ 13
  ne : pt' ≠ []
theorem putF_len_old {α : Type} {t : List (Int × α)} {i : Int} {a b : α} (h : lkF t i = some b) : (putF t i a).length = t.length := by
  unfold putF
  rw [h]
  simp
theorem putF_ne_nil {α : Type} (t : List (Int × α)) (i : Int) (a : α) : putF t i a ≠ [] := fun e => by
  have := lk_put_same t i a
  rw [e] at this
  cases this
theorem LV.start {N : Nat} {up : UP} {pt : PT} {own sv : List Int} (v : LV N up pt own sv) : SM N up pt [] up pt :=
  ⟨v.wf, fun m h => (by cases h), fun id _ => ⟨rfl, rfl⟩, v.form, v.box 0 (Nat.zero_le _), fun w b h => by have := v.bd w b h; omega, v.len, v.ne⟩
theorem SM.step {N : Nat} {up : UP} {pt : PT} {own sv : List Int} {ms : List MV} {up' : UP} {pt' : PT} (hN : N ≤ 12) (s : SM N up pt ms up' pt') {m : MV} (hs : MvSpec N up pt own sv m) (hms : ∀ a ∈ ms, MvSpec N up pt own sv a) (bm : Bool) :
    SM N up pt (ms ++ [m]) (putF up' m.id m.to) (putF pt' m.id ⟨m.x, m.y, 5, 5, bm, 0⟩) := by
  obtain ⟨n, q, h1, h2, h3, e1, e2⟩ := hs.idx
  obtain ⟨x0, y0, m0, hform⟩ := s.form n h1 h2
  have hsame : ∀ a ∈ ms, a.id = m.id → a = m := fun a ha e => by
    have := (hms a ha).eq
    rw [e, hs.eq] at this
    injection this with this
    exact this.symm
  refine ⟨⟨putF_nodup _ _ s.wf.nd, fun r hr hr2 => ?_, fun id p h => ?_⟩, fun a ha => ?_, fun id hid => ?_, fun r hr hr2 => ?_, ?_, fun w b h => ?_, ?_, putF_ne_nil _ _ _⟩
  · by_cases hrn : idF r = m.id
    · rw [hrn, lk_put_same]
      have : r = n := idF_inj (by omega) (by omega) (by rw [hrn, e1])
      subst this
      exact ⟨q, h3, by rw [e2]⟩
    · rw [lk_put_ne _ _ hrn]; exact s.wf.tot r hr hr2
  · by_cases hid : id = m.id
    · exact ⟨n, h1, h2, by rw [hid, e1]⟩
    · rw [lk_put_ne _ _ hid] at h; exact s.wf.only id p h
  · by_cases he : a.id = m.id
    · have ham : a = m := by
        rcases List.mem_append.1 ha with ha | ha
        · exact hsame a ha he
        · simpa using ha
      subst ham
      exact ⟨lk_put_same _ _ _, bm, lk_put_same _ _ _⟩
    · rcases List.mem_append.1 ha with ha | ha
      · rw [lk_put_ne _ _ he, lk_put_ne _ _ he]; exact s.hit a ha
      · exact absurd (by simp at ha; rw [ha]) he
  · have hne : id ≠ m.id := fun e => hid m (by simp) e.symm
    rw [lk_put_ne _ _ hne, lk_put_ne _ _ hne]
    exact s.miss id fun a ha => hid a (by simp [ha])
  · by_cases hrn : idF r = m.id
    · rw [hrn, lk_put_same]; exact ⟨_, _, _, rfl⟩
    · rw [lk_put_ne _ _ hrn]; exact s.form r hr hr2
  · rw [lk_put_ne _ _ (show (1 : Int) ≠ m.id by rw [e1]; exact (idF_ne1 h1 (by omega)).symm)]
    exact s.root
  · by_cases hw : w = m.id
    · rw [hw, lk_put_same] at h
      injection h with h
      subst h
      exact hs.bd
    · rw [lk_put_ne _ _ hw] at h; exact s.bd w b h
  · rw [e1, putF_len_old hform]; exact s.len
theorem lives_own {own sv : List Int} {x : Int} {L : List Int} (h : livesL own sv (x :: L) = true) (h1 : (1 : Int) ∉ own) : x ∉ own := fun hx => by
  have hx1 : x ≠ 1 := fun e => h1 (e ▸ hx)
  rw [livesL_own hx1 hx] at h
  cases h
/-- What lives is where it was, and not in one of own. -/
theorem LV.law {N : Nat} {up : UP} {pt : PT} {own sv : List Int} (v : LV N up pt own sv) {up' : UP} {pt' : PT} (s : SM N up pt (resF up pt own sv (rP up) sv) up' pt') :
    ∀ n, n ≤ N → livesL own sv (idF n :: rP up (idF n)) = true → (∀ x ∈ idF n :: rP up' (idF n), x ∉ own) ∧ sumX pt' (idF n :: rP up' (idF n)) = sumX pt (idF n :: rP up (idF n)) ∧ sumY pt' (idF n :: rP up' (idF n)) = sumY pt (idF n :: rP up (idF n)) := by
  have hN := v.hN
  intro n
  induction n using Nat.strongRecOn with
  | _ n ih =>
    intro hn hl
    by_cases h0 : n = 0
    · subst h0
      rw [idF_0, rP_eq (.root (up := up)), rP_eq (.root (up := up'))]
      refine ⟨fun x hx => ?_, by simp [sumX], by simp [sumY]⟩
      have : x = 1 := by simpa using hx
      rw [this]; exact v.own1
    · have hne := idF_ne1 (show 0 < n by omega) (by omega)
      have hno := lives_own hl v.own1
      obtain ⟨pi, hpi, hu⟩ := v.wf.tot n (by omega) hn
      obtain ⟨L, hL, _, _⟩ := v.wf.pth (by omega) pi (by omega)
      have hLp := rP_eq hL
      have hLn : rP up (idF n) = idF pi :: rP up (idF pi) := by rw [hLp]; exact rP_eq (.up hne hu hL)
      have key : ∀ q, q < n → lkF up' (idF n) = some (idF q) → livesL own sv (idF q :: rP up (idF q)) = true → (bxF pt' (idF n)).x + sumX pt (idF q :: rP up (idF q)) = sumX pt (idF n :: rP up (idF n)) → (bxF pt' (idF n)).y + sumY pt (idF q :: rP up (idF q)) = sumY pt (idF n :: rP up (idF n)) →
          (∀ x ∈ idF n :: rP up' (idF n), x ∉ own) ∧ sumX pt' (idF n :: rP up' (idF n)) = sumX pt (idF n :: rP up (idF n)) ∧ sumY pt' (idF n :: rP up' (idF n)) = sumY pt (idF n :: rP up (idF n)) := by
        intro q hq hu' hlq hx hy
        obtain ⟨i1, i2, i3⟩ := ih q hq (by omega) hlq
        obtain ⟨L', hL', _, _⟩ := s.wf.pth (by omega) q (by omega)
        have hLq := rP_eq hL'
        have hLn' : rP up' (idF n) = idF q :: rP up' (idF q) := by rw [hLq]; exact rP_eq (.up hne hu' hL')
        rw [hLn']
        refine ⟨fun x hx => ?_, ?_, ?_⟩
        · rcases List.mem_cons.1 hx with rfl | hx
          · exact hno
          · exact i1 x hx
        · rw [sumX, if_neg hne, i2]; exact hx
        · rw [sumY, if_neg hne, i3]; exact hy
      by_cases hmv : ∃ m ∈ resF up pt own sv (rP up) sv, m.id = idF n
      · obtain ⟨m, hm, hid⟩ := hmv
        have sp := v.spec hm
        obtain ⟨g1, b, g2⟩ := s.hit m hm
        obtain ⟨n', q, h1, h2, h3, e1, e2⟩ := sp.idx
        obtain ⟨p, hp, hx, hy⟩ := sp.val
        have : n' = n := idF_inj (by omega) (by omega) (by rw [← e1, hid])
        subst this
        rw [hid] at g1 g2 hp hx hy
        rw [hu] at hp
        injection hp with hp
        subst hp
        have st := sp.to
        rw [e2] at g1 hx hy st
        have hb : bxF pt' (idF n') = ⟨m.x, m.y, 5, 5, b, 0⟩ := by unfold bxF; rw [g2]; rfl
        rw [← hLn] at hx hy
        exact key q h3 g1 st (by rw [hb]; dsimp only; omega) (by rw [hb]; dsimp only; omega)
      · have hmiss := s.miss (idF n) fun m hm e => hmv ⟨m, hm, e⟩
        have hlp : livesL own sv (idF pi :: rP up (idF pi)) = true := by
          by_cases hsv : idF n ∈ sv
          · have hnone : mvS up pt own sv (rP up) (idF n) = none := by
              cases e : mvS up pt own sv (rP up) (idF n) with
              | none => rfl
              | some m =>
                have hm : m ∈ resF up pt own sv (rP up) sv := List.mem_filterMap.2 ⟨_, hsv, e⟩
                refine absurd ⟨m, hm, ?_⟩ hmv
                unfold mvS at e
                rw [hu] at e
                have e : mvF pt own sv (idF n) (idF pi :: rP up (idF pi)) = some m := e
                unfold mvF at e
                split at e
                · cases e
                · injection e with e; rw [← e]
            unfold mvS at hnone
            rw [hu] at hnone
            have hnone : mvF pt own sv (idF n) (idF pi :: rP up (idF pi)) = none := hnone
            unfold mvF at hnone
            split at hnone
            · rename_i hc
              exact hc.resolve_left hno
            · cases hnone
          · rw [hLn, livesL_up hne hno hsv] at hl
            exact hl
        have hb : bxF pt' (idF n) = bxF pt (idF n) := by unfold bxF; rw [hmiss.2]
        refine key pi hpi (by rw [hmiss.1]; exact hu) hlp ?_ ?_
        · rw [hb, hLn]; simp only [sumX, if_neg hne]
        · rw [hb, hLn]; simp only [sumY, if_neg hne]
theorem KI.move {n : Nat} {k : SVT} {up : UP} (q : KI n k up) {id p p0 : Int} {L0 : List Int} (h0 : lkF k p0 = some L0) : KI (n + 1) (mvK k p0 p id L0) (putF up id p) := by
  have hL : L0.length ≤ n := q.len (p0, L0) (lkF_some h0)
  have q1 : KI n (putF k p0 (delL id L0)) up := by
    refine ⟨putF_nodup _ _ q.nd, fun x hx => ?_, by rw [putF_len_old h0]; exact q.cnt, fun a b hab => ?_⟩
    · rcases putF_mem hx with rfl | hx
      · exact Nat.le_trans (len_delL _ _) hL
      · exact q.len x hx
    · by_cases hb : b = p0
      · exact ⟨_, by rw [hb]; exact lk_put_same _ _ _⟩
      · rw [lk_put_ne _ _ hb]; exact q.par a b hab
  exact q1.add id p
end Go.Proofs.Ytkpbbiknhhmfiaa
