/- PenMoves. No condition. -/
import Derived.Test.YtmfbfbhkjclhkaaN25
import Derived.Test.YtmfbfbhkjclhkaaN17
namespace Go.Proofs.Ytmfbfbhkjclhkaa
open Go Go.VM
attribute [local irreducible] PurV Pur Step RL W D ACalls Then InBlock Fini
set_option linter.unusedVariables false
set_option linter.unusedSimpArgs false
set_option maxHeartbeats 20000000
theorem shift_p (A : List RC) (dx dy : Int) (h : Heap) (cA : Can A) (lA : A.length ≤ 10000) (hb : ∀ r ∈ A, (-1000 ≤ r.x ∧ r.x + r.w ≤ 1000) ∧ -1000 ≤ r.y ∧ r.y + r.h ≤ 1000) (hx : -1000 ≤ dx ∧ dx ≤ 1000) (hy : -1000 ≤ dy ∧ dy ≤ 1000) :
    Can (A.map (shR dx dy)) ∧ ACalls Try.prog 30 [regE A, .val (.int .i64 (dx)), .val (.int .i64 (dy))] h (fun r h' => r = regE (A.map (shR dx dy)) ∧ h' = h) := by
  have e : A.map (mvR dx dy) = A.map (shR dx dy) := List.map_congr_left fun r hr => by
    have h1 := hb r hr
    obtain ⟨⟨_, h2, _⟩, _, h3, _⟩ := cA.cnt r hr
    unfold mvR mvY mvX shR
    dsimp only
    rw [show max (r.x + dx) (-1048576) = r.x + dx by omega, show max (r.y + dy) (-1048576) = r.y + dy by omega, show min (r.x + dx + r.w) 1048576 - (r.x + dx) = r.w by omega, show min (r.y + dy + r.h) 1048576 - (r.y + dy) = r.h by omega]
  have hc : Can (A.map (shR dx dy)) := can_sh cA fun r hr => by
    obtain ⟨q, hq, rfl⟩ := List.mem_map.1 hr
    have h1 := hb q hq
    obtain ⟨⟨_, h2, _⟩, _, h3, _⟩ := cA.cnt q hq
    unfold RC.cnt fitP shR
    dsimp only
    omega
  have := shift_c A dx dy h (by omega) cA.cnt (by omega) (by omega)
  rw [e, show ofF (A.map (shR dx dy)) = A.map (shR dx dy) from hc] at this
  exact ⟨hc, this⟩
theorem clip_has {p : PN} (hc : chkF p = 0) (u v : Int) : hasF (clP p) u v = p.clip.any fun r => decide ((r.x + p.x ≤ u ∧ u < r.x + p.x + r.w) ∧ r.y + p.y ≤ v ∧ v < r.y + p.y + r.h) := by
  obtain ⟨⟨k1, k2⟩, k3, k4⟩ := chk_facts hc
  rw [allRt_iff] at k4
  unfold clP hasF
  rw [List.any_map, Bool.eq_iff_iff, List.any_eq_true, List.any_eq_true]
  constructor
  · rintro ⟨r, hr, h⟩
    exact ⟨r, hr, by rw [← sh_rt k1 k2 (k4 r hr)]; exact h⟩
  · rintro ⟨r, hr, h⟩
    exact ⟨r, hr, by rw [← sh_rt k1 k2 (k4 r hr)] at h; exact h⟩
def mvP (p : PN) (dx dy : Int) : PN := ⟨p.fn, p.pl, p.fo, p.ba, p.ft, p.x + dx, p.y + dy, p.cl, p.clip⟩
theorem clip_mv {p q : PN} {dx dy : Int} (hp : chkF p = 0) (hq : chkF q = 0) (ec : q.clip = p.clip) (ex : q.x = p.x + dx) (ey : q.y = p.y + dy) (u v : Int) : hasF (clP q) u v = hasF (clP p) (u - dx) (v - dy) := by
  rw [clip_has hp, clip_has hq, ec]
  congr 1
  funext r
  refine decide_eq_decide.2 ?_
  omega
theorem sh_at (A : List RC) (dx dy u v : Int) : hasR (A.map (shR dx dy)) u v = hasR A (u - dx) (v - dy) := by
  have := has_sh A dx dy (u - dx) (v - dy)
  rwa [show u - dx + dx = u by omega, show v - dy + dy = v by omega] at this
theorem mv_sub {p q : PN} {dx dy w g : Int} (hp : chkF p = 0) (hq : chkF q = 0) (ec : q.clip = p.clip) (ex : q.x = p.x + dx) (ey : q.y = p.y + dy) (hl : q.cl = p.cl) (hw : w ≤ 1000) (hg : g ≤ 1000) (hC : Can ((regP p w g).map (shR dx dy)))
    (u v : Int) (h : hasR (joinJ (fun p q => p && q) ((regP p w g).map (shR dx dy)) (ofF [⟨0, 0, w, g⟩])) u v = true) : ((0 ≤ u ∧ u < w) ∧ 0 ≤ v ∧ v < g) ∧ hasR (regP q w g) u v = true := by
  rw [has_join hC (can_of _) rfl, Bool.and_eq_true, sh_at, reg_hasP hp hw hg, has_ofF] at h
  obtain ⟨h1, h2⟩ := h
  obtain ⟨r, hr, _, h3⟩ := hasF_iff.1 h2
  have e : r = ⟨0, 0, w, g⟩ := by simpa using hr
  subst e
  unfold RC.has at h3
  dsimp only at h3
  have hin : (0 ≤ u ∧ u < w) ∧ 0 ≤ v ∧ v < g := by omega
  refine ⟨hin, ?_⟩
  rw [reg_hasP hq hw hg]
  unfold hasP at *
  rw [decide_eq_true hin, hl, clip_mv hp hq ec ex ey]
  rw [Bool.and_eq_true] at h1
  exact h1.2
theorem chk_mv {p : PN} {dx dy : Int} (hp : chkF p = 0) (hx : -32768 ≤ p.x + dx ∧ p.x + dx ≤ 32767) (hy : -32768 ≤ p.y + dy ∧ p.y + dy ≤ 32767) : chkF (mvP p dx dy) = 0 := by
  have h1 := chk_fn2 hp
  have h2 := chk_facts hp
  unfold chkF at hp ⊢
  unfold mvP
  dsimp only
  rw [if_neg (fun q => q h1), if_neg (fun q => q ⟨h2.1.1, h2.1.2⟩)] at hp
  rw [if_neg (fun q => q h1), if_neg (fun q => q ⟨hx, hy⟩)]
  exact hp
theorem jok_sh {A : List RC} {dx dy : Int} {c : RC} (bA : Bx 0 60 A) (hc : Can (A.map (shR dx dy))) (hx : -128 ≤ dx ∧ dx ≤ 128) (hy : -128 ≤ dy ∧ dy ≤ 128) (h1 : (ofF [c]).length ≤ 1) : JOk (A.map (shR dx dy)) (ofF [c]) := by
  have bS : Bx 128 316 (A.map (shR dx dy)) := .of_has hc fun x y h => by
    rw [sh_at] at h
    have := bA.has h
    omega
  have hl := bA.len
  have y1 := bS.ysJ1 h1
  have x1 := bS.xsJ1 h1
  exact ⟨hc, can_of _, by rw [List.length_map]; omega, by omega, by omega, fun y => by have := x1 y; omega⟩
theorem bx_sh {A : List RC} (bA : Bx 0 60 A) : ∀ r ∈ A, (-1000 ≤ r.x ∧ r.x + r.w ≤ 1000) ∧ -1000 ≤ r.y ∧ r.y + r.h ≤ 1000 := fun r hr => by
  have := bA.inb r hr
  obtain ⟨⟨_, h2, _⟩, _, h3, _⟩ := bA.can.cnt r hr
  omega
end Go.Proofs.Ytmfbfbhkjclhkaa
