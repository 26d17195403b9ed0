/- Pens: Region. No condition. -/
import Derived.Test.YtmfbfbhkjclhkaaN6
namespace Go.Proofs.Ytmfbfbhkjclhkaa
open Go Go.VM
attribute [local irreducible] PurV Pur Step RL W D ACalls Then InBlock Fini
set_option linter.unusedVariables false
set_option linter.unusedSimpArgs false
set_option maxHeartbeats 20000000
theorem plP_ok {w g : Int} (hw : -1000 ≤ w ∧ w ≤ 1000) (hg : -1000 ≤ g ∧ g ≤ 1000) : (plP w g).ok := by
  unfold plP; constructor <;> (unfold I64; dsimp only; omega)
set_option maxRecDepth 100000 in
theorem preg_e (p : PN) (w g : Int) (h : Heap) (hl : p.clip.length ≤ 300) (hc : chkF p ≠ 0) : ACalls Try.prog 18 [p.enc, .val (.int .i64 (w)), .val (.int .i64 (g))] h (fun r h' => r = regE (regP p w g) ∧ h' = h) := by
  have ck := fun h => chk_c p h hl
  rw [show regP p w g = [] by unfold regP; rw [if_pos hc]]
  refine ACalls.wk (Q := fun v h' => v = .agg [.val (.slice none 0 0)] ∧ h' = h) ?_ ?_
  · generalize chkF p = c at *
    simp only [pn_enc] at *
    refine ACalls.intro Try.func18 rfl Try.ntmps18 Try.results18 (Nat.le_of_ble_eq_true rfl) ?_
    (repeat' (first | (refine iS ?_; refine iMu ?_; refine S.mapU ?_) | refine svz ⟨fun b hq => ?_⟩ | refine sv1 ?_ | refine svs ⟨?_⟩ | refine svu ⟨fun u => ?_⟩ | (refine svg (fun hg => ?_) (fun hg => ?_) <;> try (exfalso; first | omega | contradiction)) | (refine svc (fun hc => ?_) (fun hc => ?_) <;> try (exfalso; first | omega | contradiction)) | refine sv2 ?_ | refine svh (fun hb => ?_) (fun hb => ?_) | refine svb (fun b => ?_) | refine sva ?_ | refine sv3 ?_))
    refine S.call ?_; refine (ck _).mono ?_; rintro r h' ⟨rfl, hh⟩; subst hh
    (repeat' (first | (refine iS ?_; refine iMu ?_; refine S.mapU ?_) | refine svz ⟨fun b hq => ?_⟩ | refine sv1 ?_ | refine svs ⟨?_⟩ | refine svu ⟨fun u => ?_⟩ | (refine svg (fun hg => ?_) (fun hg => ?_) <;> try (exfalso; first | omega | contradiction)) | (refine svc (fun hc => ?_) (fun hc => ?_) <;> try (exfalso; first | omega | contradiction)) | refine sv2 ?_ | refine svh (fun hb => ?_) (fun hb => ?_) | refine svb (fun b => ?_) | refine sva ?_ | refine sv3 ?_))
    exact fin_r (h' := h) ⟨rfl, rfl⟩
  · rintro v h' ⟨rfl, rfl⟩
    unfold regE
    exact ⟨_, (by (repeat (first | exact Wk.refl _ | exact Wk.nilr _ | exact Wk.nilm | apply Wk.aggc | apply Wk.tupc | exact Wk.aggn | exact Wk.tupn)); first | done | fail), rfl, rfl⟩
set_option maxRecDepth 100000 in
theorem preg_n (p : PN) (w g : Int) (h : Heap) (hl : p.clip.length ≤ 300) (hc : chkF p = 0) (hcl : p.cl = false) (hw : -1000 ≤ w ∧ w ≤ 1000) (hg : -1000 ≤ g ∧ g ≤ 1000) : ACalls Try.prog 18 [p.enc, .val (.int .i64 (w)), .val (.int .i64 (g))] h (fun r h' => r = regE (regP p w g) ∧ h' = h) := by
  have ck := fun h => chk_c p h hl
  rw [show regP p w g = ofF [plP w g] by unfold regP; rw [if_neg (by omega), if_pos hcl]]
  have o1 : ∀ h, _ := fun h => of_c [plP w g] h (by simp) (fun r hr => by
    have : r = plP w g := by simpa using hr
    subst this; exact plP_ok hw hg)
  rw [show [plP w g].map RC.enc = [.agg [.val (.int .i64 (0)), .val (.int .i64 (0)), .val (.int .i64 (min w 65535)), .val (.int .i64 (min g 65535))]] from rfl] at o1
  rw [hc] at ck
  generalize ofF [plP w g] = R0 at *
  simp only [pn_enc] at *
  obtain ⟨fn, pl, fo, ba, ft, x, y, cl, l⟩ := p
  dsimp only at *
  subst hcl
  unfold regE
  refine ACalls.intro Try.func18 rfl Try.ntmps18 Try.results18 (Nat.le_of_ble_eq_true rfl) ?_
  (repeat' (first | (refine iS ?_; refine iN ?_; first | refine S.build1r ?_ | refine S.build2r ?_ | refine S.build3r ?_) | (refine iR2 ?_; refine r2b ?_; refine R2.one ?_) | (refine iS ?_; refine iMu ?_; refine S.mapU ?_) | refine svz ⟨fun b hq => ?_⟩ | refine sv1 ?_ | refine svs ⟨?_⟩ | refine svu ⟨fun u => ?_⟩ | (refine svg (fun hg => ?_) (fun hg => ?_) <;> try (exfalso; first | omega | contradiction)) | (refine svc (fun hc => ?_) (fun hc => ?_) <;> try (exfalso; first | omega | contradiction)) | refine sv2 ?_ | refine svh (fun hb => ?_) (fun hb => ?_) | refine svb (fun b => ?_) | refine sva ?_ | refine sv3 ?_))
  refine S.call ?_; refine (ck _).mono ?_; rintro r h' ⟨rfl, hh⟩; subst hh
  (repeat' (first | (refine iS ?_; refine iN ?_; first | refine S.build1r ?_ | refine S.build2r ?_ | refine S.build3r ?_) | (refine iR2 ?_; refine r2b ?_; refine R2.one ?_) | (refine iS ?_; refine iMu ?_; refine S.mapU ?_) | refine svz ⟨fun b hq => ?_⟩ | refine sv1 ?_ | refine svs ⟨?_⟩ | refine svu ⟨fun u => ?_⟩ | (refine svg (fun hg => ?_) (fun hg => ?_) <;> try (exfalso; first | omega | contradiction)) | (refine svc (fun hc => ?_) (fun hc => ?_) <;> try (exfalso; first | omega | contradiction)) | refine sv2 ?_ | refine svh (fun hb => ?_) (fun hb => ?_) | refine svb (fun b => ?_) | refine sva ?_ | refine sv3 ?_))
  refine S.call ?_; refine (o1 _).mono ?_; rintro r h' ⟨rfl, hh⟩; subst hh
  (repeat' (first | (refine iS ?_; refine iN ?_; first | refine S.build1r ?_ | refine S.build2r ?_ | refine S.build3r ?_) | (refine iR2 ?_; refine r2b ?_; refine R2.one ?_) | (refine iS ?_; refine iMu ?_; refine S.mapU ?_) | refine svz ⟨fun b hq => ?_⟩ | refine sv1 ?_ | refine svs ⟨?_⟩ | refine svu ⟨fun u => ?_⟩ | (refine svg (fun hg => ?_) (fun hg => ?_) <;> try (exfalso; first | omega | contradiction)) | (refine svc (fun hc => ?_) (fun hc => ?_) <;> try (exfalso; first | omega | contradiction)) | refine sv2 ?_ | refine svh (fun hb => ?_) (fun hb => ?_) | refine svb (fun b => ?_) | refine sva ?_ | refine sv3 ?_))
  exact fin_r (h' := h) ⟨rfl, rfl⟩
theorem chk_facts {p : PN} (hc : chkF p = 0) : (placeP p.x ∧ placeP p.y) ∧ p.clip.length ≤ 256 ∧ allRt p.clip = true := by
  unfold chkF at hc
  split at hc
  · omega
  split at hc
  · omega
  rename_i g
  split at hc
  · omega
  split at hc
  · omega
  split at hc
  · rename_i g2
    exact ⟨Decidable.of_not_not g, by omega, g2⟩
  · omega
set_option maxRecDepth 100000 in
theorem preg_m (p : PN) (w g : Int) (h : Heap) (hl : p.clip.length ≤ 300) (hc : chkF p = 0) (hcl : p.cl = true) (hw : -1000 ≤ w ∧ w ≤ 1000) (hg : -1000 ≤ g ∧ g ≤ 1000) : ACalls Try.prog 18 [p.enc, .val (.int .i64 (w)), .val (.int .i64 (g))] h (fun r h' => r = regE (regP p w g) ∧ h' = h) := by
  have ck := fun h => chk_c p h hl
  obtain ⟨⟨px, py⟩, hl2, hrt⟩ := chk_facts hc
  have hrt := allRt_iff.1 hrt
  rw [show regP p w g = joinJ (fun a b => a && b) (ofF (clP p)) (ofF [plP w g]) by unfold regP; rw [if_neg (by omega), if_neg (by rw [hcl]; decide)]]
  rw [hc] at ck
  simp only [pn_enc] at *
  obtain ⟨fn, pl, fo, ba, ft, x, y, cl, l⟩ := p
  unfold clP
  dsimp only at *
  subst hcl
  unfold placeP at px py
  have hcok : ∀ r ∈ l.map (shR x y), r.ok := fun r hr => by
    obtain ⟨q, hq, rfl⟩ := List.mem_map.1 hr
    have := hrt q hq
    unfold RC.rt placeP sideP at this
    unfold shR
    constructor <;> (unfold I64; dsimp only; omega)
  have hlm : (l.map (shR x y)).length ≤ 256 := by rw [List.length_map]; exact hl2
  have o1 := fun h => of_c (l.map (shR x y)) h (by omega) hcok
  have o2 := fun h => within_c (ofF (l.map (shR x y))) (plP w g) h (plP_ok hw hg) (jok_few hlm (can_of _) (of_one _))
  rw [show (plP w g).enc = .agg [.val (.int .i64 (0)), .val (.int .i64 (0)), .val (.int .i64 (min w 65535)), .val (.int .i64 (min g 65535))] from rfl] at o2
  refine ACalls.intro Try.func18 rfl Try.ntmps18 Try.results18 (Nat.le_of_ble_eq_true rfl) ?_
  (repeat' (first | (refine iS ?_; refine iMu ?_; refine S.mapU ?_) | refine svz ⟨fun b hq => ?_⟩ | refine sv1 ?_ | refine svs ⟨?_⟩ | refine svu ⟨fun u => ?_⟩ | (refine svg (fun hg => ?_) (fun hg => ?_) <;> try (exfalso; first | omega | contradiction)) | (refine svc (fun hc => ?_) (fun hc => ?_) <;> try (exfalso; first | omega | contradiction)) | refine sv2 ?_ | refine svh (fun hb => ?_) (fun hb => ?_) | refine svb (fun b => ?_) | refine sva ?_ | refine sv3 ?_))
  rename_i b3
  revert b; intro b6
  refine S.call ?_; refine (ck _).mono ?_; rintro r h' ⟨rfl, hh⟩; subst hh
  (repeat' (first | (refine iS ?_; refine iMu ?_; refine S.mapU ?_) | refine svz ⟨fun b hq => ?_⟩ | refine sv1 ?_ | refine svs ⟨?_⟩ | refine svu ⟨fun u => ?_⟩ | (refine svg (fun hg => ?_) (fun hg => ?_) <;> try (exfalso; first | omega | contradiction)) | (refine svc (fun hc => ?_) (fun hc => ?_) <;> try (exfalso; first | omega | contradiction)) | refine sv2 ?_ | refine svh (fun hb => ?_) (fun hb => ?_) | refine svb (fun b => ?_) | refine sva ?_ | refine sv3 ?_))
  revert b; intro b7
  clear ck
  refine W.loop (J := fun q : Nat × Value => ⟨60, [(33, .val (.int .i64 (q.1))), (32, .val (.int .i64 (l.length))), (31, .ro 4 (l.map RC.enc)), (8, .val q.2), (7, .val (.pointer (some ⟨b7, 0, none⟩))), (6, .val (.pointer (some ⟨b6, 0, none⟩))), (3, .val (.pointer (some ⟨b3, 0, none⟩)))], .own q.2 4 (((l.take q.1).map (shR x y)).map RC.enc) 43 :: .box b7 [.val (.int .i64 (0)), .val (.int .i64 (0)), .val (.int .i64 (min w 65535)), .val (.int .i64 (min g 65535))] 43 :: .box b6 [.val (.slice none 0 0)] 46 :: .box b3 [.val (.int .i64 (fn)), .val (.int .u8 (pl)), .val (.int .u8 (fo)), .val (.int .u8 (ba)), .val (.int .u32 ft), .val (.int .i64 (x)), .val (.int .i64 (y)), .val (.bool true), .ro 4 (l.map RC.enc)] 27 :: h⟩)
    (Φ := fun q => q.1 ≤ l.length) (μ := fun q => l.length - q.1) (0, u) lee (Nat.zero_le _) ?_
  rintro ⟨i, v⟩ hi
  dsimp only at hi ⊢
  have hlk : ((l.take i).map (shR x y)).length ≤ 256 := by rw [List.length_map, List.length_take]; omega
  rcases Nat.lt_or_ge i l.length with hlt | hge
  · obtain ⟨r, hr⟩ : ∃ r, l[i]? = some r := ⟨_, List.getElem?_eq_getElem hlt⟩
    have hrr := hrt r (List.mem_of_getElem? hr)
    unfold RC.rt placeP sideP at hrr
    have hs : (l.take (i + 1)).map (shR x y) = (l.take i).map (shR x y) ++ [⟨r.x + x, r.y + y, r.w, r.h⟩] := by rw [List.take_add_one, hr, List.map_append]; rfl
    generalize (l.take i).map (shR x y) = O at *
    clear hrt hcok o1 o2
    (repeat' (first | (refine iS ?_; refine iMu ?_; refine S.mapU ?_) | refine svz ⟨fun b hq => ?_⟩ | refine sv1 ?_ | refine svs ⟨?_⟩ | refine svu ⟨fun u => ?_⟩ | (refine svg (fun hg => ?_) (fun hg => ?_) <;> try (exfalso; first | omega | contradiction)) | (refine svc (fun hc => ?_) (fun hc => ?_) <;> try (exfalso; first | omega | contradiction)) | refine sv2 ?_ | refine svh (fun hb => ?_) (fun hb => ?_) | refine svb (fun b => ?_) | refine sva ?_ | refine sv3 ?_))
    exact ⟨(i + 1, u), hlt, by dsimp only; rw [hs, List.map_append]; exact lee, by dsimp only; omega⟩
  · rw [List.take_of_length_le hge]
    clear hrt hcok
    unfold regE at *
    generalize l.map (shR x y) = C at *
    generalize joinJ (fun a b => a && b) (ofF C) (ofF [plP w g]) = J0 at *
    generalize ofF C = R0 at *
    refine W.frz (v := v) (by (fail_if_success (apply tkG)); (repeat (first | exact Tk.here | apply Tk.there)); first | done | fail) (by repeat' (first | apply FrzT.cons | exact FrzT.rest _ | exact Frz.hit | apply Frz.aggc | apply Frz.tupc | exact Frz.aggn | exact Frz.tupn | exact Frz.keep _)) (by repeat' (first | apply FrzH.box | apply FrzH.keep | exact FrzH.rest _ | exact Frz.hit | apply Frz.aggc | apply Frz.tupc | exact Frz.aggn | exact Frz.tupn | exact Frz.keep _)) ?_
    (repeat' (first | (refine iS ?_; refine iMu ?_; refine S.mapU ?_) | refine svz ⟨fun b hq => ?_⟩ | refine sv1 ?_ | refine svs ⟨?_⟩ | refine svu ⟨fun u => ?_⟩ | (refine svg (fun hg => ?_) (fun hg => ?_) <;> try (exfalso; first | omega | contradiction)) | (refine svc (fun hc => ?_) (fun hc => ?_) <;> try (exfalso; first | omega | contradiction)) | refine sv2 ?_ | refine svh (fun hb => ?_) (fun hb => ?_) | refine svb (fun b => ?_) | refine sva ?_ | refine sv3 ?_))
    refine R2.C (o1 _) ?_
    (repeat' (first | (refine iS ?_; refine iMu ?_; refine S.mapU ?_) | refine svz ⟨fun b hq => ?_⟩ | refine sv1 ?_ | refine svs ⟨?_⟩ | refine svu ⟨fun u => ?_⟩ | (refine svg (fun hg => ?_) (fun hg => ?_) <;> try (exfalso; first | omega | contradiction)) | (refine svc (fun hc => ?_) (fun hc => ?_) <;> try (exfalso; first | omega | contradiction)) | refine sv2 ?_ | refine svh (fun hb => ?_) (fun hb => ?_) | refine svb (fun b => ?_) | refine sva ?_ | refine sv3 ?_))
    refine R2.C (o2 _) ?_
    (repeat' (first | (refine iS ?_; refine iMu ?_; refine S.mapU ?_) | refine svz ⟨fun b hq => ?_⟩ | refine sv1 ?_ | refine svs ⟨?_⟩ | refine svu ⟨fun u => ?_⟩ | (refine svg (fun hg => ?_) (fun hg => ?_) <;> try (exfalso; first | omega | contradiction)) | (refine svc (fun hc => ?_) (fun hc => ?_) <;> try (exfalso; first | omega | contradiction)) | refine sv2 ?_ | refine svh (fun hb => ?_) (fun hb => ?_) | refine svb (fun b => ?_) | refine sva ?_ | refine sv3 ?_))
    exact fin_r (h' := h) ⟨rfl, rfl⟩
theorem pregion_c (p : PN) (w g : Int) (h : Heap) (hl : p.clip.length ≤ 300) (hw : -1000 ≤ w ∧ w ≤ 1000) (hg : -1000 ≤ g ∧ g ≤ 1000) : ACalls Try.prog 18 [p.enc, .val (.int .i64 (w)), .val (.int .i64 (g))] h (fun r h' => r = regE (regP p w g) ∧ h' = h) := by
  by_cases hc : chkF p = 0
  · cases hcl : p.cl with
    | true => exact preg_m p w g h hl hc hcl hw hg
    | false => exact preg_n p w g h hl hc hcl hw hg
  · exact preg_e p w g h hl hc
end Go.Proofs.Ytmfbfbhkjclhkaa
