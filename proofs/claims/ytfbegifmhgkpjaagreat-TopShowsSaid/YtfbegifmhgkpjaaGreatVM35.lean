import Derived.Test.YtfbegifmhgkpjaaGreatC6
import Derived.Test.YtfbegifmhgkpjaaGreatW1
import Derived.Test.YtfbegifmhgkpjaaGreatVM29
import Derived.Test.YtfbegifmhgkpjaaGreatB9
import Derived.Laws.Strings
import Derived.Test.YtfbegifmhgkpjaaGreatU3
/- Plain: what shows of windows, place by place. No condition. -/
namespace Go.Proofs.YtfbegifmhgkpjaaGreat
open Go Go.VM
set_option linter.unusedVariables false
set_option linter.unusedSimpArgs false
set_option maxHeartbeats 4000000
structure BW where
  (x y w h : Int) (m : Bool) (g : Int) (sh : Bool) (shape : List RC)
abbrev PW := List (Int × BW)
structure SW where
  (x y : Int) (clip : List RC)
abbrev AndJ (A B : List RC) : List RC := joinJ (fun p q => p && q) A B
abbrev NotJ (A B : List RC) : List RC := joinJ (fun p q => p && !q) A B
def areaB (b : BW) : List RC := if b.sh then AndJ b.shape (ofF [⟨0, 0, b.w, b.h⟩]) else ofF [⟨0, 0, b.w, b.h⟩]
def shF (dx dy : Int) (A : List RC) : List RC := A.map (shR dx dy)
theorem has_shF (dx dy : Int) (A : List RC) (x y : Int) : hasR (shF dx dy A) x y = hasR A (x - dx) (y - dy) := by
  have := has_sh A dx dy (x - dx) (y - dy)
  rw [show x - dx + dx = x by omega, show y - dy + dy = y by omega] at this
  exact this
section
variable (bx : PW) (K : Int → List Int) (ox oy : Int → Int)
def kidA (id : Int) (b : BW) (pl : List RC) : List RC := AndJ (shF (ox id + b.x) (oy id + b.y) (areaB b)) pl
def lpF (hd : Int → List RC → List RC → List (Int × SW)) (id : Int) (pl : List RC) : List Int → List RC → List (Int × SW) × List RC
  | [], lf => ([], lf)
  | kid :: ks, lf =>
    match lkF bx kid with
    | none => lpF hd id pl ks lf
    | some b =>
      if b.m = false then lpF hd id pl ks lf else
      (hd kid (kidA ox oy id b pl) (AndJ (kidA ox oy id b pl) lf) ++ (lpF hd id pl ks (NotJ lf (kidA ox oy id b pl))).1, (lpF hd id pl ks (NotJ lf (kidA ox oy id b pl))).2)
def handF : Nat → Int → List RC → List RC → List (Int × SW)
  | 0, _, _, _ => []
  | f + 1, id, pl, lf => (lpF bx ox oy (handF f) id pl (K id).reverse lf).1 ++ [(id, ⟨ox id, oy id, (lpF bx ox oy (handF f) id pl (K id).reverse lf).2⟩)]
def inW (id : Int) (x y : Int) (kid : Int) : Bool :=
  match lkF bx kid with
  | none => false
  | some b => b.m && hasR (areaB b) (x - (ox id + b.x)) (y - (oy id + b.y))
def topF (x y : Int) : Nat → Int → Int
  | 0, id => id
  | f + 1, id =>
    match (K id).reverse.find? (inW bx ox oy id x y) with
    | none => id
    | some kid => topF x y f kid
end
section
variable {bx : PW} {K : Int → List Int} {ox oy : Int → Int} {x y : Int}
theorem kidA_has {id kid : Int} {b : BW} {pl : List RC} (hb : lkF bx kid = some b) (hm : b.m = true) (hc : Can pl) (hsh : Can (shF (ox id + b.x) (oy id + b.y) (areaB b))) :
    hasR (kidA ox oy id b pl) x y = (inW bx ox oy id x y kid && hasR pl x y) := by
  unfold kidA inW
  rw [has_join hsh hc rfl, has_shF, hb]
  simp [hm]
theorem lp_off {hd : Int → List RC → List RC → List (Int × SW)} {id : Int} {pl : List RC} (hp : Can pl) (hhd : ∀ kid a l, Can a → Can l → hasR l x y = false → ∀ e ∈ hd kid a l, hasR e.2.clip x y = false) :
    ∀ (ks : List Int) (lf : List RC), Can lf → hasR lf x y = false → (∀ e ∈ (lpF bx ox oy hd id pl ks lf).1, hasR e.2.clip x y = false) ∧ hasR (lpF bx ox oy hd id pl ks lf).2 x y = false
  | [], lf, _, h => ⟨fun e he => (by cases he), h⟩
  | kid :: ks, lf, hl, h => by
    unfold lpF
    cases e : lkF bx kid with
    | none => exact lp_off hp hhd ks lf hl h
    | some b =>
      dsimp only
      split
      · exact lp_off hp hhd ks lf hl h
      · have hA : Can (kidA ox oy id b pl) := can_join _ _ _
        have ih := lp_off (id := id) hp hhd ks (NotJ lf (kidA ox oy id b pl)) (can_join _ _ _) (by rw [has_join hl hA rfl, h]; rfl)
        refine ⟨fun q hq => ?_, ih.2⟩
        rcases List.mem_append.1 hq with hq | hq
        · exact hhd _ _ _ hA (can_join _ _ _) (by rw [has_join hA hl rfl, h]; simp) q hq
        · exact ih.1 q hq
theorem hand_off : ∀ (f : Nat) (id : Int) (pl lf : List RC), Can pl → Can lf → hasR lf x y = false → ∀ e ∈ handF bx K ox oy f id pl lf, hasR e.2.clip x y = false
  | 0, _, _, _, _, _, _, e, he => by cases he
  | f + 1, id, pl, lf, hp, hl, h, e, he => by
    unfold handF at he
    have q := lp_off (bx := bx) (ox := ox) (oy := oy) (hd := handF bx K ox oy f) (id := id) hp (fun kid a l ha hl h => hand_off f kid a l ha hl h) (K id).reverse lf hl h
    rcases List.mem_append.1 he with he | he
    · exact q.1 e he
    · have : e = _ := List.mem_singleton.1 he
      rw [this]; exact q.2
def OnP (bx : PW) (ox oy : Int → Int) (x y : Int) (hd : Int → List RC → List RC → List (Int × SW)) (id : Int) (ks : List Int) (r : List (Int × SW) × List RC) : Prop :=
  match ks.find? (inW bx ox oy id x y) with
  | none => (∀ e ∈ r.1, hasR e.2.clip x y = false) ∧ hasR r.2 x y = true
  | some kid => kid ∈ ks ∧ hasR r.2 x y = false ∧ ∃ a l, Can a ∧ Can l ∧ hasR a x y = true ∧ hasR l x y = true ∧ (∀ e ∈ r.1, hasR e.2.clip x y = true → e ∈ hd kid a l) ∧ ∀ e ∈ hd kid a l, e ∈ r.1
theorem OnP.skip {hd : Int → List RC → List RC → List (Int × SW)} {id kid : Int} {ks : List Int} {r : List (Int × SW) × List RC} (h : OnP bx ox oy x y hd id ks r) (hin : inW bx ox oy id x y kid = false) : OnP bx ox oy x y hd id (kid :: ks) r := by
  unfold OnP at *
  rw [List.find?_cons, hin]
  dsimp only
  revert h
  cases ks.find? (inW bx ox oy id x y) with
  | none => exact fun q => q
  | some k => exact fun q => ⟨List.mem_cons_of_mem _ q.1, q.2⟩
theorem lp_on {hd : Int → List RC → List RC → List (Int × SW)} {id : Int} {pl : List RC} (hp : Can pl) (hpx : hasR pl x y = true) (hhd : ∀ kid a l, Can a → Can l → hasR l x y = false → ∀ e ∈ hd kid a l, hasR e.2.clip x y = false) :
    ∀ (ks : List Int) (lf : List RC), (∀ kid b, kid ∈ ks → lkF bx kid = some b → Can (shF (ox id + b.x) (oy id + b.y) (areaB b))) →
      Can lf → hasR lf x y = true → OnP bx ox oy x y hd id ks (lpF bx ox oy hd id pl ks lf)
  | [], lf, _, _, h => ⟨fun e he => (by cases he), h⟩
  | kid :: ks, lf, hsh, hl, h => by
    have hsh' := fun k b (hk : k ∈ ks) => hsh k b (List.mem_cons_of_mem _ hk)
    cases e : lkF bx kid with
    | none =>
      rw [show lpF bx ox oy hd id pl (kid :: ks) lf = lpF bx ox oy hd id pl ks lf by rw [lpF, e]]
      exact (lp_on hp hpx hhd ks lf hsh' hl h).skip (by unfold inW; rw [e])
    | some b =>
      cases hm : b.m with
      | false =>
        rw [show lpF bx ox oy hd id pl (kid :: ks) lf = lpF bx ox oy hd id pl ks lf by rw [lpF, e]; simp [hm]]
        exact (lp_on hp hpx hhd ks lf hsh' hl h).skip (by unfold inW; rw [e]; simp [hm])
      | true =>
        have hA : Can (kidA ox oy id b pl) := can_join _ _ _
        have hAx : hasR (kidA ox oy id b pl) x y = inW bx ox oy id x y kid := by rw [kidA_has e hm hp (hsh kid b (List.mem_cons_self ..) e), hpx, Bool.and_true]
        have hlp : lpF bx ox oy hd id pl (kid :: ks) lf = (hd kid (kidA ox oy id b pl) (AndJ (kidA ox oy id b pl) lf) ++ (lpF bx ox oy hd id pl ks (NotJ lf (kidA ox oy id b pl))).1, (lpF bx ox oy hd id pl ks (NotJ lf (kidA ox oy id b pl))).2) := by
          rw [lpF, e]; simp [hm]
        have hN : Can (NotJ lf (kidA ox oy id b pl)) := can_join _ _ _
        have hNx : hasR (NotJ lf (kidA ox oy id b pl)) x y = !inW bx ox oy id x y kid := by rw [has_join hl hA rfl, h, hAx]; simp
        have hMx : hasR (AndJ (kidA ox oy id b pl) lf) x y = inW bx ox oy id x y kid := by rw [has_join hA hl rfl, h, hAx]; simp
        rw [hlp]
        cases hin : inW bx ox oy id x y kid with
        | true =>
          rw [hin] at hAx hNx hMx
          have q := lp_off (bx := bx) (ox := ox) (oy := oy) (id := id) hp hhd ks _ hN hNx
          unfold OnP
          rw [List.find?_cons, hin]
          refine ⟨List.mem_cons_self .., q.2, _, _, hA, can_join _ _ _, hAx, hMx, fun e he hx => ?_, fun e he => List.mem_append_left _ he⟩
          rcases List.mem_append.1 he with he | he
          · exact he
          · rw [q.1 e he] at hx; cases hx
        | false =>
          rw [hin] at hAx hNx hMx
          have ih := lp_on (id := id) hp hpx hhd ks _ hsh' hN hNx
          have hoff := hhd kid _ _ hA (can_join _ _ _) hMx
          refine OnP.skip ?_ hin
          unfold OnP at *
          revert ih
          cases ks.find? (inW bx ox oy id x y) with
          | none =>
            intro q
            refine ⟨fun e he => ?_, q.2⟩
            rcases List.mem_append.1 he with he | he
            · exact hoff e he
            · exact q.1 e he
          | some k =>
            rintro ⟨q1, q2, a, l, q3, q4, q5, q6, q7, q8⟩
            refine ⟨q1, q2, a, l, q3, q4, q5, q6, fun e he hx => ?_, fun e he => List.mem_append_right _ (q8 e he)⟩
            rcases List.mem_append.1 he with he | he
            · rw [hoff e he] at hx; cases hx
            · exact q7 e he hx
theorem hand_on (rk : Int → Nat) (hrk : ∀ id kid, kid ∈ K id → rk kid < rk id) (hsh : ∀ id kid b, kid ∈ K id → lkF bx kid = some b → Can (shF (ox id + b.x) (oy id + b.y) (areaB b))) :
    ∀ (f : Nat) (id : Int) (pl lf : List RC), rk id < f → Can pl → Can lf → hasR pl x y = true → hasR lf x y = true →
      (∀ e ∈ handF bx K ox oy f id pl lf, hasR e.2.clip x y = true → e.1 = topF bx K ox oy x y f id) ∧ ∃ s, (topF bx K ox oy x y f id, s) ∈ handF bx K ox oy f id pl lf ∧ hasR s.clip x y = true
  | 0, _, _, _, h, _, _, _, _ => absurd h (Nat.not_lt_zero _)
  | f + 1, id, pl, lf, hr, hp, hl, hpx, hlx => by
    have q := lp_on (bx := bx) (ox := ox) (oy := oy) (x := x) (y := y) (hd := handF bx K ox oy f) (id := id) hp hpx (fun kid a l ha hl h => hand_off f kid a l ha hl h) (K id).reverse lf (fun kid b hk => hsh id kid b (List.mem_reverse.1 hk)) hl hlx
    unfold handF topF
    unfold OnP at q
    generalize lpF bx ox oy (handF bx K ox oy f) id pl (K id).reverse lf = r at *
    revert q
    cases hf : (K id).reverse.find? (inW bx ox oy id x y) with
    | none =>
      rintro ⟨q1, q2⟩
      refine ⟨fun e he hx => ?_, _, List.mem_append_right _ (List.mem_singleton.2 rfl), q2⟩
      rcases List.mem_append.1 he with he | he
      · rw [q1 e he] at hx; cases hx
      · rw [List.mem_singleton.1 he]
    | some kid =>
      rintro ⟨q1, q2, a, l, q3, q4, q5, q6, q7, q8⟩
      have hk := hrk id kid (List.mem_reverse.1 q1)
      obtain ⟨i1, s, i2, i3⟩ := hand_on rk hrk hsh f kid a l (by omega) q3 q4 q5 q6
      refine ⟨fun e he hx => ?_, s, List.mem_append_left _ (q8 _ i2), i3⟩
      rcases List.mem_append.1 he with he | he
      · exact i1 e (q7 e he hx) hx
      · rw [List.mem_singleton.1 he] at hx
        rw [q2] at hx; cases hx
end
end Go.Proofs.YtfbegifmhgkpjaaGreat


namespace Go.Proofs.YtfbegifmhgkpjaaGreat
open Go Go.VM
attribute [local irreducible] PurV Pur Step RL W D ACalls Then InBlock Fini
set_option linter.unusedVariables false
set_option linter.unusedSimpArgs false
set_option maxHeartbeats 20000000
abbrev SVT := List (Int × List Int)
def vIds (l : List Int) : AV := .ro 1 (ints .u32 l)
end Go.Proofs.YtfbegifmhgkpjaaGreat


/- saveset.Set: Of, Drop, Change. No condition. -/
namespace Go.Proofs.YtfbegifmhgkpjaaGreat
open Go Go.VM
attribute [local irreducible] PurV Pur Step RL W D ACalls Then InBlock Fini
set_option linter.unusedVariables false
set_option linter.unusedSimpArgs false
set_option maxHeartbeats 20000000
def ofS (t : SVT) (c : Int) : List Int := (lkF t c).getD []
end Go.Proofs.YtfbegifmhgkpjaaGreat


/- The reference's Has, Wrong, Sorted; same. No condition. -/
namespace Go.Proofs.YtfbegifmhgkpjaaGreat
open Go Go.VM
attribute [local irreducible] PurV Pur Step RL W D ACalls Then InBlock Fini
set_option linter.unusedVariables false
set_option linter.unusedSimpArgs false
set_option maxHeartbeats 20000000
end Go.Proofs.YtfbegifmhgkpjaaGreat

/- Strings compared; bytes divided. No condition. -/
namespace Go.VM
open Go
set_option linter.unusedVariables false
set_option linter.unusedSimpArgs false
section
variable {P : Program} {tm : List (Nat × AV)} {h : Heap} {d : Option Nat} {x y : Operand} {xt yt ty : Nat} {pos : String} {af : Array Edge} {gd : Option (Nat × Bool)}
end
end Go.VM

/- Freezing an owned slice that lies in an owned map, too. No condition. -/
namespace Go.VM
open Go
set_option linter.unusedVariables false
set_option linter.unusedSimpArgs false
inductive FrzG (v : Value) (k : Nat) (l : List AV) : Heap → Heap → Prop
  | rest (h : Heap) : FrzG v k l h h
  | keep (x : OE) {h h' : Heap} (r : FrzG v k l h h') : FrzG v k l (x :: h) (x :: h')
  | box {b ty : Nat} {c c' : List AV} {h h' : Heap} (q : Frz v k l (.agg c) (.agg c')) (r : FrzG v k l h h') : FrzG v k l (.box b c ty :: h) (.box b c' ty :: h')
  | mp {b : Nat} {ks : List Value} {c c' : List AV} {h h' : Heap} (q : Frz v k l (.agg c) (.agg c')) (r : FrzG v k l h h') : FrzG v k l (.mp b ks c :: h) (.mp b ks c' :: h')
theorem FrzG.mem {v : Value} {k : Nat} {l : List AV} {h h' : Heap} (q : FrzG v k l h h') : ∀ x ∈ h', ∃ y ∈ h, y.blk = x.blk ∧ (y = x ∨ (∃ b c c' ty, y = .box b c ty ∧ x = .box b c' ty ∧ Frz v k l (.agg c) (.agg c')) ∨ ∃ b ks c c', y = .mp b ks c ∧ x = .mp b ks c' ∧ Frz v k l (.agg c) (.agg c')) := by
  induction q with
  | rest h => exact fun x hx => ⟨x, hx, rfl, .inl rfl⟩
  | keep x r ih =>
    intro z hz
    rcases List.mem_cons.1 hz with rfl | hz
    · exact ⟨z, .head _, rfl, .inl rfl⟩
    · obtain ⟨y, h1, h2⟩ := ih z hz; exact ⟨y, .tail _ h1, h2⟩
  | box q r ih =>
    intro z hz
    rcases List.mem_cons.1 hz with rfl | hz
    · exact ⟨_, .head _, rfl, .inr (.inl ⟨_, _, _, _, rfl, rfl, q⟩)⟩
    · obtain ⟨y, h1, h2⟩ := ih z hz; exact ⟨y, .tail _ h1, h2⟩
  | mp q r ih =>
    intro z hz
    rcases List.mem_cons.1 hz with rfl | hz
    · exact ⟨_, .head _, rfl, .inr (.inr ⟨_, _, _, _, rfl, rfl, q⟩)⟩
    · obtain ⟨y, h1, h2⟩ := ih z hz; exact ⟨y, .tail _ h1, h2⟩
theorem FrzG.blks {v : Value} {k : Nat} {l : List AV} {h h' : Heap} (q : FrzG v k l h h') : h'.filterMap OE.blk = h.filterMap OE.blk := by
  induction q with
  | rest h => rfl
  | keep x r ih => simp only [List.filterMap_cons, ih]
  | box q r ih => simp only [List.filterMap_cons, ih, OE.blk]
  | mp q r ih => simp only [List.filterMap_cons, ih, OE.blk]
theorem Frz.relL {v : Value} {k : Nat} {l : List AV} {c c' : List AV} (h : Frz v k l (.agg c) (.agg c')) {m m' : Ghost} (hm : Gle m m') (hv : Rel m' (.ro k l) v) {cs : List Value} (q : RelL m c cs) : RelL m' c' cs := by
  have r := h.rel hm hv (.agg cs.toArray) (by simp only [Rel]; exact ⟨_, rfl, by simpa using q⟩)
  simp only [Rel] at r
  obtain ⟨cs', e, r⟩ := r
  injection e with e
  rw [← e] at r
  simpa using r
theorem Sim.frzg {m0 : GF} {w0 : World} {n : Nat} {t t' : List (Nat × AV)} {h h1 h2 : Heap} {a : Act} {w : World} {v : Value} {k e : Nat} {l : List AV} (hs : Sim m0 w0 ⟨n, t, h⟩ a w)
    (tk : Tk h (.own v k l e) h1) (ht : FrzT v k l t t') (hh : FrzG v k l h1 h2) : Sim m0 w0 ⟨n, t', h2⟩ a w := by
  obtain ⟨m, q⟩ := hs
  have hown := q.heap.2 _ tk.old
  let m'' : Ghost := fun b => if ownBlk v = some b then w.heap[b]? else m b
  have hle : Gle m m'' := fun b o hb => by
    show (if ownBlk v = some b then w.heap[b]? else m b) = some o
    rw [if_neg (fun hv => by rw [hown.1 b hv] at hb; cases hb)]; exact hb
  have hat : ∀ b, ownBlk v = some b → m'' b = w.heap[b]? := fun b hb => if_pos hb
  have hro := own_ro hown.2 hle hat
  refine ⟨m'', ⟨q.le.trans hle, fun b o hb => ?_, q.frame, fun x hx b hb => ?_, fun b o hb => ?_, q.same, q.defers.mono hle, q.size, fun i y hy => ?_, ?_, fun x hx => ?_⟩⟩
  · have hb : (if ownBlk v = some b then w.heap[b]? else m b) = some o := hb
    split at hb
    · rename_i hv; exact .inr (q.own _ tk.old b hv)
    · exact q.grow b o hb
  · obtain ⟨y, g1, g2, _⟩ := hh.mem x hx
    exact q.own y (tk.sub.subset g1) b (g2.trans hb)
  · have hb : (if ownBlk v = some b then w.heap[b]? else m b) = some o := hb
    split at hb
    · exact hb
    · exact q.holds b o hb
  · obtain ⟨x, g1, g2⟩ := ht.get i y hy
    obtain ⟨u, g3, g4⟩ := q.tmps i x g1
    exact ⟨u, g3, g2.rel hle hro u g4⟩
  · show (h2.filterMap OE.blk).Nodup
    rw [hh.blks]; exact (tk.sub.filterMap _).nodup q.heap.1
  · obtain ⟨y, g1, g2, g3⟩ := hh.mem x hx
    have hy := q.heap.2 y (tk.sub.subset g1)
    refine ⟨fun b hb => ?_, ?_⟩
    · show (if ownBlk v = some b then w.heap[b]? else m b) = none
      rw [if_neg (show ¬ ownBlk v = some b from fun hv => tk.nodup q.heap.1 b hv y g1 (g2.trans hb))]
      exact hy.1 b (g2.trans hb)
    · rcases g3 with rfl | ⟨b, c, c', ty, rfl, rfl, g3⟩ | ⟨b, ks, c, c', rfl, rfl, g3⟩
      · exact hy.2.mono hle
      · have := hy.2
        simp only [OERel] at this ⊢
        obtain ⟨cs, q1, q2⟩ := this
        exact ⟨cs, q1, g3.relL hle hro q2⟩
      · have := hy.2
        simp only [OERel] at this ⊢
        obtain ⟨es, clk, es', q0, q1, q2, q3⟩ := this
        exact ⟨es, clk, es', q0, q1, q2, g3.relL hle hro q3⟩
section
variable {ro : Option Nat} {P : Program} {n : Nat} {t t' : List (Nat × AV)} {h h1 h2 : Heap} {v : Value} {k e : Nat} {l : List AV} {K : St → Prop}
theorem W.frzg {c : Code} {Q : Exit → St → Prop} (tk : Tk h (.own v k l e) h1) (ht : FrzT v k l t t') (hh : FrzG v k l h1 h2) (q : W ro P c Q ⟨n, t', h2⟩) : W ro P c Q ⟨n, t, h⟩ := fun m0 w0 a w hs => q m0 w0 a w (hs.frzg tk ht hh)
theorem RL.frzg {ops : Array Oper} {rest : List Oper} (tk : Tk h (.own v k l e) h1) (ht : FrzT v k l t t') (hh : FrzG v k l h1 h2) (q : RL ro P ops rest ⟨n, t', h2⟩ K) : RL ro P ops rest ⟨n, t, h⟩ K := fun i hi m0 w0 a w hs => q i hi m0 w0 a w (hs.frzg tk ht hh)
theorem frz_agg : ∀ {xs ys : List AV}, xs.length = ys.length → (∀ (i : Nat) (x y : AV), xs[i]? = some x → ys[i]? = some y → Frz v k l x y) → Frz v k l (.agg xs) (.agg ys)
  | [], [], _, _ => .aggn
  | [], _ :: _, h, _ => by cases h
  | _ :: _, [], h, _ => by cases h
  | x :: xs, y :: ys, h, he => .aggc (he 0 x y rfl rfl) (frz_agg (by simpa using h) fun i a b ha hb => he (i + 1) a b (by simpa using ha) (by simpa using hb))
end
end Go.VM
