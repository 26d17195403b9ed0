import Derived.Test.YtbknacpdcdkjiaaGreatVM45
import Derived.Test.YtbknacpdcdkjiaaGreatU4
import Derived.Test.YtbknacpdcdkjiaaGreatF31
import Derived.Test.YtbknacpdcdkjiaaGreatF3
/- Devices: Next, Feed, Allow. No condition. -/
namespace Go.Proofs.YtbknacpdcdkjiaaGreat
open Go Go.VM
attribute [local irreducible] PurV Pur Step RL W D ACalls Then InBlock Fini
set_option linter.unusedVariables false
set_option linter.unusedSimpArgs false
set_option maxHeartbeats 20000000
def DV.wait (d : DV) (l : List IN) : DV := ⟨d.a, d.g, d.f, d.s, d.held, d.hs, l⟩
def DV.next (d : DV) : Option (DV × IN) := match d.ws with
  | [] => none
  | i :: l => if d.f then none else some (if d.s && decide (1 ≤ i.k ∧ i.k ≤ 4) then (d.wait l).freeze else d.wait l, i)
def nextV (d : DV) : AV := match d.next with
  | none => .tup [d.enc, IN.z.enc, .val (.bool (false))]
  | some p => .tup [p.1.enc, p.2.enc, .val (.bool (true))]
set_option maxRecDepth 100000 in
theorem next_c (d : DV) (h : Heap) (hl : d.ws.length ≤ 1000000) : ACalls Tryz.prog 81 [d.enc] h (fun r h' => r = nextV d ∧ h' = h) := by
  by_cases hf : d.f = true
  · have e : nextV d = .tup [d.enc, IN.z.enc, .val (.bool (false))] := by
      unfold nextV DV.next
      cases d.ws with
      | nil => rfl
      | cons i l => rw [hf]; rfl
    rw [e]
    unfold DV.enc
    refine ACalls.intro Tryz.func81 rfl Tryz.ntmps81 Tryz.results81 (Nat.le_of_ble_eq_true rfl) ?_
    rw [hf]
    (repeat' (first|refine svz ⟨fun b hq=>?_⟩|refine svA ⟨?_⟩|refine svu ⟨fun u=>?_⟩|(refine svG (fun hg=>?_) (fun hg=>?_)<;>try exact svx)|refine svh (fun hb=>?_) (fun hb=>?_)|refine svb (fun b=>?_)|fail))
    refine fin_r (h' := h) (Q := fun r h' => r = _ ∧ h' = h) ?_; exact ⟨rfl, rfl⟩
  have hf : d.f = false := by simpa using hf
  cases hw : d.ws with
  | nil =>
    have e : nextV d = .tup [d.enc, IN.z.enc, .val (.bool (false))] := by unfold nextV DV.next; rw [hw]
    rw [e]
    unfold DV.enc
    rw [hw]
    refine ACalls.intro Tryz.func81 rfl Tryz.ntmps81 Tryz.results81 (Nat.le_of_ble_eq_true rfl) ?_
    rw [hf]
    (repeat' (first|refine svz ⟨fun b hq=>?_⟩|refine svA ⟨?_⟩|refine svu ⟨fun u=>?_⟩|(refine svG (fun hg=>?_) (fun hg=>?_)<;>try exact svx)|refine svh (fun hb=>?_) (fun hb=>?_)|refine svb (fun b=>?_)|fail))
    refine fin_r (h' := h) (Q := fun r h' => r = _ ∧ h' = h) ?_; exact ⟨rfl, rfl⟩
  | cons i l =>
    have cl := fun h => clnin_c l h (by rw [hw] at hl; simp at hl; omega)
    have fz := fun h => freeze_c ⟨d.a, d.g, false, true, d.held, d.hs, l⟩ h
    have e : nextV d = .tup [(if d.s && decide (1 ≤ i.k ∧ i.k ≤ 4) then (d.wait l).freeze else d.wait l).enc, i.enc, .val (.bool (true))] := by unfold nextV DV.next; rw [hw, hf]; rfl
    rw [e]
    clear e
    have hn : (i :: l).length = l.length + 1 := rfl
    have e1 : List.take ((List.map IN.enc (i :: l)).length - 1) (List.drop 1 (List.map IN.enc (i :: l))) = l.map IN.enc := by rw [List.map_cons, List.drop_succ_cons, List.drop_zero]; exact List.take_of_length_le (by simp)
    by_cases hs : d.s = true
    · by_cases h1 : 1 ≤ i.k
      · by_cases h2 : i.k ≤ 4
        · rw [if_pos (by rw [hs, decide_eq_true ⟨h1, h2⟩]; rfl)]
          unfold DV.enc at *
          dsimp only [DV.wait, DV.freeze] at *; rw [hw] at *; rw [hf]; (try rw [hs]); refine ACalls.intro Tryz.func81 rfl Tryz.ntmps81 Tryz.results81 (Nat.le_of_ble_eq_true rfl) ?_; (repeat' (first|refine svz ⟨fun b hq=>?_⟩|refine svA ⟨?_⟩|refine svu ⟨fun u=>?_⟩|(refine svG (fun hg=>?_) (fun hg=>?_)<;>try exact svx)|refine svh (fun hb=>?_) (fun hb=>?_)|refine svb (fun b=>?_)|fail)); rw [e1]; refine S.call ?_; refine (cl _).mono ?_; rintro r h' ⟨rfl, hh⟩; subst hh; (repeat' (first|refine svz ⟨fun b hq=>?_⟩|refine svA ⟨?_⟩|refine svu ⟨fun u=>?_⟩|(refine svG (fun hg=>?_) (fun hg=>?_)<;>try exact svx)|refine svh (fun hb=>?_) (fun hb=>?_)|refine svb (fun b=>?_)|fail))
          refine S.call ?_; refine (fz _).mono ?_; rintro r h' ⟨rfl, hh⟩; subst hh
          (repeat' (first|refine svz ⟨fun b hq=>?_⟩|refine svA ⟨?_⟩|refine svu ⟨fun u=>?_⟩|(refine svG (fun hg=>?_) (fun hg=>?_)<;>try exact svx)|refine svh (fun hb=>?_) (fun hb=>?_)|refine svb (fun b=>?_)|fail))
          refine W.dr (.ro (.rw (.rw (.ro (.done _))))) ?_; (repeat' (first|refine svz ⟨fun b hq=>?_⟩|refine svA ⟨?_⟩|refine svu ⟨fun u=>?_⟩|(refine svG (fun hg=>?_) (fun hg=>?_)<;>try exact svx)|refine svh (fun hb=>?_) (fun hb=>?_)|refine svb (fun b=>?_)|fail)); refine fin_r (h' := h) (Q := fun r h' => r = _ ∧ h' = h) ?_; exact ⟨rfl, rfl⟩
        · rw [if_neg (by rw [decide_eq_false (fun q => h2 q.2)]; simp)]
          unfold DV.enc at *
          dsimp only [DV.wait, DV.freeze] at *; rw [hw] at *; rw [hf]; (try rw [hs]); refine ACalls.intro Tryz.func81 rfl Tryz.ntmps81 Tryz.results81 (Nat.le_of_ble_eq_true rfl) ?_; (repeat' (first|refine svz ⟨fun b hq=>?_⟩|refine svA ⟨?_⟩|refine svu ⟨fun u=>?_⟩|(refine svG (fun hg=>?_) (fun hg=>?_)<;>try exact svx)|refine svh (fun hb=>?_) (fun hb=>?_)|refine svb (fun b=>?_)|fail)); rw [e1]; refine S.call ?_; refine (cl _).mono ?_; rintro r h' ⟨rfl, hh⟩; subst hh; (repeat' (first|refine svz ⟨fun b hq=>?_⟩|refine svA ⟨?_⟩|refine svu ⟨fun u=>?_⟩|(refine svG (fun hg=>?_) (fun hg=>?_)<;>try exact svx)|refine svh (fun hb=>?_) (fun hb=>?_)|refine svb (fun b=>?_)|fail))
          refine W.dr (.ro (.rw (.rw (.ro (.done _))))) ?_; (repeat' (first|refine svz ⟨fun b hq=>?_⟩|refine svA ⟨?_⟩|refine svu ⟨fun u=>?_⟩|(refine svG (fun hg=>?_) (fun hg=>?_)<;>try exact svx)|refine svh (fun hb=>?_) (fun hb=>?_)|refine svb (fun b=>?_)|fail)); refine fin_r (h' := h) (Q := fun r h' => r = _ ∧ h' = h) ?_; exact ⟨rfl, rfl⟩
      · rw [if_neg (by rw [decide_eq_false (fun q => h1 q.1)]; simp)]
        unfold DV.enc at *
        dsimp only [DV.wait, DV.freeze] at *; rw [hw] at *; rw [hf]; (try rw [hs]); refine ACalls.intro Tryz.func81 rfl Tryz.ntmps81 Tryz.results81 (Nat.le_of_ble_eq_true rfl) ?_; (repeat' (first|refine svz ⟨fun b hq=>?_⟩|refine svA ⟨?_⟩|refine svu ⟨fun u=>?_⟩|(refine svG (fun hg=>?_) (fun hg=>?_)<;>try exact svx)|refine svh (fun hb=>?_) (fun hb=>?_)|refine svb (fun b=>?_)|fail)); rw [e1]; refine S.call ?_; refine (cl _).mono ?_; rintro r h' ⟨rfl, hh⟩; subst hh; (repeat' (first|refine svz ⟨fun b hq=>?_⟩|refine svA ⟨?_⟩|refine svu ⟨fun u=>?_⟩|(refine svG (fun hg=>?_) (fun hg=>?_)<;>try exact svx)|refine svh (fun hb=>?_) (fun hb=>?_)|refine svb (fun b=>?_)|fail))
        refine W.dr (.ro (.rw (.rw (.ro (.done _))))) ?_; (repeat' (first|refine svz ⟨fun b hq=>?_⟩|refine svA ⟨?_⟩|refine svu ⟨fun u=>?_⟩|(refine svG (fun hg=>?_) (fun hg=>?_)<;>try exact svx)|refine svh (fun hb=>?_) (fun hb=>?_)|refine svb (fun b=>?_)|fail)); refine fin_r (h' := h) (Q := fun r h' => r = _ ∧ h' = h) ?_; exact ⟨rfl, rfl⟩
    · have hs : d.s = false := by simpa using hs
      rw [if_neg (by rw [hs]; simp)]
      unfold DV.enc at *
      dsimp only [DV.wait, DV.freeze] at *; rw [hw] at *; rw [hf]; (try rw [hs]); refine ACalls.intro Tryz.func81 rfl Tryz.ntmps81 Tryz.results81 (Nat.le_of_ble_eq_true rfl) ?_; (repeat' (first|refine svz ⟨fun b hq=>?_⟩|refine svA ⟨?_⟩|refine svu ⟨fun u=>?_⟩|(refine svG (fun hg=>?_) (fun hg=>?_)<;>try exact svx)|refine svh (fun hb=>?_) (fun hb=>?_)|refine svb (fun b=>?_)|fail)); rw [e1]; refine S.call ?_; refine (cl _).mono ?_; rintro r h' ⟨rfl, hh⟩; subst hh; (repeat' (first|refine svz ⟨fun b hq=>?_⟩|refine svA ⟨?_⟩|refine svu ⟨fun u=>?_⟩|(refine svG (fun hg=>?_) (fun hg=>?_)<;>try exact svx)|refine svh (fun hb=>?_) (fun hb=>?_)|refine svb (fun b=>?_)|fail))
      refine W.dr (.ro (.rw (.rw (.ro (.done _))))) ?_; (repeat' (first|refine svz ⟨fun b hq=>?_⟩|refine svA ⟨?_⟩|refine svu ⟨fun u=>?_⟩|(refine svG (fun hg=>?_) (fun hg=>?_)<;>try exact svx)|refine svh (fun hb=>?_) (fun hb=>?_)|refine svb (fun b=>?_)|fail)); refine fin_r (h' := h) (Q := fun r h' => r = _ ∧ h' = h) ?_; exact ⟨rfl, rfl⟩
end Go.Proofs.YtbknacpdcdkjiaaGreat

/- Plain: the windows of TopFocus, one by one. No condition. -/
namespace Go.Proofs.YtbknacpdcdkjiaaGreat
open Go Go.VM
set_option linter.unusedVariables false
set_option linter.unusedSimpArgs false
set_option linter.unusedSectionVars false
set_option maxHeartbeats 4000000
theorem putK_len {α : Type} (t : List (KY × α)) (i : KY) (a : α) : (putK t i a).length ≤ t.length + 1 := by
  unfold putK
  split <;> simp
theorem putK_nodup {α : Type} {t : List (KY × α)} (i : KY) (a : α) (h : (t.map (·.1)).Nodup) : ((putK t i a).map (·.1)).Nodup := by
  cases e : lkK t i with
  | some x =>
    unfold putK
    rw [e]
    simp only [Option.isSome_some, if_true]
    have : (t.map fun p => if p.1 = i then (i, a) else p).map (·.1) = t.map (·.1) := by
      rw [List.map_map]
      refine List.map_congr_left fun p _ => ?_
      show (if p.1 = i then (i, a) else p).1 = p.1
      split
      · rename_i e; exact e.symm
      · rfl
    rw [this]; exact h
  | none =>
    have hn : i ∉ t.map (·.1) := fun hm => by
      obtain ⟨p, h1, h2⟩ := List.mem_map.1 hm
      exact lkK_none.1 e p h1 h2
    rw [putK_new a hn, List.map_append, List.nodup_append]
    exact ⟨h, by simp, fun x hx y hy => by simp at hy; subst hy; exact fun e => hn (e ▸ hx)⟩
structure FW where
  (u : Int) (m : Bool) (c : Int) (st : Bool) (x y : Int)
structure FW.Ok (w : FW) : Prop where
  u : 0 ≤ w.u ∧ w.u ≤ 255
  c : 0 ≤ w.c ∧ w.c ≤ 255
  x : -128 ≤ w.x ∧ w.x ≤ 127
  y : -128 ≤ w.y ∧ w.y ≤ 127
def FW.up (w : FW) (i : Nat) : Nat := w.u.toNat % (i + 1)
def FW.box (w : FW) : BW := ⟨w.x.tmod 6, w.y.tmod 6, 7, 7, w.m, 1, false, []⟩
structure FS where
  (k : SVT) (up : UP) (t : PW) (M : CM) (N : CS)
def fsM (w : FW) (i : Nat) (M : CM) : CM := if 0 < w.c % 4 then putK M (w.c % 4, idT (i + 1)) 3 else M
def fsN (w : FW) (i : Nat) (N : CS) : CS := if w.st then putF N (idT (i + 1)) 1 else N
def fsS (s : FS) (i : Nat) (w : FW) : FS := ⟨putF s.k (idT (w.up i)) (ofS s.k (idT (w.up i)) ++ [idT (i + 1)]), putF s.up (idT (i + 1)) (idT (w.up i)), putF s.t (idT (i + 1)) w.box, fsM w i s.M, fsN w i s.N⟩
def fsF (l : List FW) : Nat → FS
  | 0 => ⟨[], [], [(1, rootB 12 12)], [], []⟩
  | i + 1 => match l[i]? with | some w => fsS (fsF l i) i w | none => fsF l i
theorem FW.Ok.box {w : FW} (h : w.Ok) : w.box.Ok := by
  have h1 := h.x; have h2 := h.y
  refine ⟨?_, ?_, ?_, ?_, ?_, Bx.nil _ _, fun _ => rfl⟩
  · show -128 ≤ w.x.tmod 6 ∧ w.x.tmod 6 ≤ 127; have := Int.tmod_lt_of_pos w.x (b := 6) (by decide); have := Int.lt_tmod_of_pos w.x (b := 6) (by decide); omega
  · show -128 ≤ w.y.tmod 6 ∧ w.y.tmod 6 ≤ 127; have := Int.tmod_lt_of_pos w.y (b := 6) (by decide); have := Int.lt_tmod_of_pos w.y (b := 6) (by decide); omega
  · show (1 : Int) ≤ 7 ∧ (7 : Int) ≤ 16; omega
  · show (1 : Int) ≤ 7 ∧ (7 : Int) ≤ 16; omega
  · show (0 : Int) ≤ 1 ∧ (1 : Int) ≤ 10; omega
structure ChOk (n : Nat) (M : CM) (N : CS) : Prop where
  mn : (M.map (·.1)).Nodup
  nn : (N.map (·.1)).Nodup
  ml : M.length ≤ n
  nl : N.length ≤ n
  mv : ∀ c id, mkF M c id = 0 ∨ mkF M c id = 3
theorem ChOk.start : ChOk 0 [] [] := ⟨by simp, by simp, by simp, by simp, fun c id => .inl rfl⟩
theorem ChOk.succ {n : Nat} {M : CM} {N : CS} (h : ChOk n M N) (w : FW) (i : Nat) : ChOk (n + 1) (fsM w i M) (fsN w i N) := by
  have := h.ml; have := h.nl
  refine ⟨?_, ?_, ?_, ?_, fun c id => ?_⟩
  · unfold fsM; split
    · exact putK_nodup _ _ h.mn
    · exact h.mn
  · unfold fsN; split
    · exact putF_nodup _ _ h.nn
    · exact h.nn
  · unfold fsM; split
    · have := putK_len M (w.c % 4, idT (i + 1)) 3; omega
    · omega
  · unfold fsN; split
    · have := putF_len N (idT (i + 1)) 1; omega
    · omega
  · unfold fsM; split
    · unfold mkF
      rw [lkK_put]
      split
      · exact .inr rfl
      · exact h.mv c id
    · exact h.mv c id
theorem ChOk.hx {n : Nat} {M : CM} {N : CS} (h : ChOk n M N) (o id : Int) : bitsI .and .i64 (bitsI .and .i64 (mkF M o id) 3) 2052 = 0 := by
  rcases h.mv o id with e | e <;> rw [e] <;> decide +kernel
structure FS.Ok (n : Nat) (s : FS) : Prop where
  kw : KW n s.k s.up s.t
  ch : ChOk n s.M s.N
theorem fsF_ok {l : List FW} (hl : ∀ w ∈ l, w.Ok) : ∀ {i : Nat}, i ≤ l.length → (fsF l i).Ok i
  | 0, _ => ⟨KW.start (by omega) (by omega), .start⟩
  | i + 1, h => by
    have ih := fsF_ok hl (i := i) (by omega)
    have e : l[i]? = some (l[i]'(by omega)) := List.getElem?_eq_getElem (by omega)
    have ok := hl _ (List.mem_of_getElem? e)
    show FS.Ok (i + 1) (match l[i]? with | some w => fsS (fsF l i) i w | none => fsF l i)
    rw [e]
    exact ⟨ih.kw.succ (Nat.le_of_lt_succ (Nat.mod_lt _ (Nat.succ_pos i))) ok.box, ih.ch.succ _ _⟩
theorem fsF_step {l : List FW} {i : Nat} {w : FW} (h : l[i]? = some w) : fsF l (i + 1) = fsS (fsF l i) i w := by
  show (match l[i]? with | some w => fsS (fsF l i) i w | none => fsF l i) = _
  rw [h]
end Go.Proofs.YtbknacpdcdkjiaaGreat

/- Devices: Feed, Allow. No condition. -/
namespace Go.Proofs.YtbknacpdcdkjiaaGreat
open Go Go.VM
attribute [local irreducible] PurV Pur Step RL W D ACalls Then InBlock Fini
set_option linter.unusedVariables false
set_option linter.unusedSimpArgs false
set_option maxHeartbeats 20000000
set_option maxRecDepth 100000 in
theorem feed_c (d : DV) (i : IN) (h : Heap) (hl : d.ws.length < 256) : ACalls Tryz.prog 40 [d.enc, i.enc] h (fun r h' => r = .tup [(d.wait (d.ws ++ [i])).enc, .val (.int .i64 (0))] ∧ h' = h) := by
  have hm : (d.ws.map IN.enc).length = d.ws.length := List.length_map ..
  have e1 : (d.ws ++ [i]).map IN.enc = d.ws.map IN.enc ++ [i.enc] := by simp
  have es : ∀ Z, splice (List.replicate d.ws.length Z) 0 (d.ws.map IN.enc) = d.ws.map IN.enc := fun Z => by
    unfold splice
    rw [List.take_zero, List.nil_append, List.drop_of_length_le (by simp)]; simp
  unfold DV.enc DV.wait
  dsimp only
  rw [e1, IN.enc_eq i]
  refine fz (g := fun v => .tup [.agg [.val (.int .i64 (d.a.cl)), .val (.int .u32 (d.a.w)), .val (.bool (d.a.ow)), .val (.int .i64 (d.a.mask)), .val (.bool (d.a.au)), .val (.bool (d.a.pa)), .val (.int .i64 (d.a.code)), .val (.int .u32 (d.a.time)), .val (.bool (d.g)), .val (.bool (d.f)), .val (.bool (d.s)), .val (.int .i64 (d.held.k)), .val (.int .i64 (d.held.c)), .val (.int .i64 (d.held.x)), .val (.int .i64 (d.held.y)), .val (.int .u32 (d.held.t)), .val (.int .i64 (d.held.n)), .val (.bool (d.hs)), v], .val (.int .i64 (0))]) (g' := fun v => .tup [.agg [.val (.int .i64 (d.a.cl)), .val (.int .u32 (d.a.w)), .val (.bool (d.a.ow)), .val (.int .i64 (d.a.mask)), .val (.bool (d.a.au)), .val (.bool (d.a.pa)), .val (.int .i64 (d.a.code)), .val (.int .u32 (d.a.time)), .val (.bool (d.g)), .val (.bool (d.f)), .val (.bool (d.s)), .val (.int .i64 (d.held.k)), .val (.int .i64 (d.held.c)), .val (.int .i64 (d.held.x)), .val (.int .i64 (d.held.y)), .val (.int .u32 (d.held.t)), .val (.int .i64 (d.held.n)), .val (.bool (d.hs)), v], .val (.int .i64 (0))]) (k := 6) (e := 47) (l := d.ws.map IN.enc ++ [.agg [.val (.int .i64 ((i).k)), .val (.int .i64 ((i).c)), .val (.int .i64 ((i).x)), .val (.int .i64 ((i).y)), .val (.int .u32 ((i).t)), .val (.int .i64 ((i).n))]]) (fun v => by (repeat' (first | exact Frz.hit | apply Frz.aggc | apply Frz.tupc | exact Frz.aggn | exact Frz.tupn | exact Frz.keep _))) ?_
  refine ACalls.intro Tryz.func40 rfl Tryz.ntmps40 Tryz.results40 (Nat.le_of_ble_eq_true rfl) ?_
  (repeat' (first | (refine iR2 ?_; refine r2b ?_; refine R2.one ?_) | (refine iS ?_; refine iN ?_; refine S.build1r ?_) | (refine iS ?_; refine iMu ?_; refine S.mapU ?_) | refine svz ⟨fun b hq=>?_⟩|refine svT ⟨?_⟩|refine svu ⟨fun u=>?_⟩|(refine svG (fun hg=>?_) (fun hg=>?_)<;>try exact svx)|refine svh (fun hb=>?_) (fun hb=>?_)|refine svb (fun b=>?_) | refine sva ?_ | refine sv3 ?_ | fail))
  rw [es]
  refine fin_r (h' := .own u 6 (d.ws.map IN.enc ++ [.agg [.val (.int .i64 ((i).k)), .val (.int .i64 ((i).c)), .val (.int .i64 ((i).x)), .val (.int .i64 ((i).y)), .val (.int .u32 ((i).t)), .val (.int .i64 ((i).n))]]) 47 :: h) (Q := fun r h' => ∃ v, r = _ ∧ h' = _) ?_
  exact ⟨u, rfl, rfl⟩
end Go.Proofs.YtbknacpdcdkjiaaGreat
