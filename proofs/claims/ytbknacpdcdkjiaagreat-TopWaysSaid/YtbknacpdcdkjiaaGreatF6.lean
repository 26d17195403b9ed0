import Derived.Test.YtbknacpdcdkjiaaGreatVM39
import Derived.Test.YtbknacpdcdkjiaaGreatU4
/- Plain: where the pointer is, told by crossings. No condition. -/
namespace Go.Proofs.YtbknacpdcdkjiaaGreat
open Go Go.VM
set_option maxRecDepth 100000
set_option linter.unusedVariables false
set_option linter.unusedSimpArgs false
set_option linter.unusedSectionVars false
set_option maxHeartbeats 4000000
abbrev CS3 := Int × Bool × Int
def aboveF (L : List Int) (e : Int) : List Int := match idxN e (L.drop 1) with
  | some i => (L.drop 1).take i
  | none => L.drop 1
def meetF (A B : List Int) : Option Int := A.find? fun a => decide (a ∈ B)
def crossF (up : UP) (a b : Int) : List CS3 := if a = b then [] else
  match meetF (pathA up a) (pathA up b) with
  | none => []
  | some m =>
    if m = a then (a, false, 2) :: ((aboveF (pathA up b) a).reverse.map fun i => (i, true, 1)) ++ [(b, true, 0)]
    else if m = b then (a, false, 0) :: ((aboveF (pathA up a) b).map fun i => (i, false, 1)) ++ [(b, true, 2)]
    else (a, false, 3) :: ((aboveF (pathA up a) m).map fun i => (i, false, 4)) ++ ((aboveF (pathA up b) m).reverse.map fun i => (i, true, 4)) ++ [(b, true, 3)]
def stI (g : Int → Bool) (s : CS3) : Int → Bool := fun i => if i = s.1 then (s.2.1 || decide (s.2.2 = 2)) else g i
def okI (g : Int → Bool) (s : CS3) : Prop := if s.2.2 = 2 then g s.1 = true else g s.1 ≠ s.2.1
def okL (g : Int → Bool) : List CS3 → Prop
  | [] => True
  | s :: L => okI g s ∧ okL (stI g s) L
theorem okL_app : ∀ {L L' : List CS3} {g : Int → Bool}, okL g L → okL (L.foldl stI g) L' → okL g (L ++ L')
  | [], _, _, _, h => h
  | s :: L, L', g, h, h' => ⟨h.1, okL_app (L := L) h.2 h'⟩
theorem runsIn {d : Int} (hd : d ≠ 2) : ∀ {L : List Int} {g : Int → Bool}, L.Nodup → (∀ i ∈ L, g i = false) → okL g (L.map fun i => (i, true, d)) ∧ ∀ x, (L.map fun i => (i, true, d)).foldl stI g x = (g x || decide (x ∈ L))
  | [], g, _, _ => ⟨trivial, fun x => by simp⟩
  | a :: L, g, hn, hg => by
    rw [List.nodup_cons] at hn
    have h1 : ∀ x, stI g (a, true, d) x = (g x || decide (x = a)) := fun x => by
      unfold stI
      dsimp only
      by_cases e : x = a
      · rw [if_pos e]; simp [e]
      · rw [if_neg e]; simp [e]
    have ih := runsIn hd (L := L) (g := stI g (a, true, d)) hn.2 fun i hi => by
      rw [h1, hg i (List.mem_cons_of_mem _ hi)]
      simp only [Bool.false_or, decide_eq_false_iff_not]
      rintro rfl; exact hn.1 hi
    refine ⟨⟨?_, ih.1⟩, fun x => ?_⟩
    · unfold okI
      dsimp only
      rw [if_neg hd, hg a (List.mem_cons_self ..)]; decide
    · rw [List.map_cons, List.foldl_cons, ih.2, h1]
      cases g x <;> simp
theorem run_out {d : Int} (hd : d ≠ 2) : ∀ {L : List Int} {g : Int → Bool}, L.Nodup → (∀ i ∈ L, g i = true) → okL g (L.map fun i => (i, false, d)) ∧ ∀ x, (L.map fun i => (i, false, d)).foldl stI g x = (g x && decide (x ∉ L))
  | [], g, _, _ => ⟨trivial, fun x => by simp⟩
  | a :: L, g, hn, hg => by
    rw [List.nodup_cons] at hn
    have h1 : ∀ x, stI g (a, false, d) x = (g x && decide (x ≠ a)) := fun x => by
      unfold stI
      dsimp only
      by_cases e : x = a
      · rw [if_pos e]; simp [e, hd]
      · rw [if_neg e]; simp [e]
    have ih := run_out hd (L := L) (g := stI g (a, false, d)) hn.2 fun i hi => by
      rw [h1, hg i (List.mem_cons_of_mem _ hi)]
      simp only [Bool.true_and, decide_eq_true_iff]
      rintro rfl; exact hn.1 hi
    refine ⟨⟨?_, ih.1⟩, fun x => ?_⟩
    · unfold okI
      dsimp only
      rw [if_neg hd, hg a (List.mem_cons_self ..)]; decide
    · rw [List.map_cons, List.foldl_cons, ih.2, h1]
      cases g x <;> simp
theorem nodup_rev {l : List Int} (h : l.Nodup) : l.reverse.Nodup := List.pairwise_reverse.2 (h.imp fun h => Ne.symm h)
section
variable {k : SVT} {up : UP} (w : TW k up)
include w
theorem pathA_eq {id : Int} (h : hasT up id = true) : pathA up id = id :: rP up id := by unfold pathA; rw [if_pos h]
theorem pth_split {id : Int} {R : List Int} (h : Pth up id R) : ∀ x ∈ id :: R, ∃ P, id :: R = P ++ pathA up x ∧ hasT up x = true := by
  induction h with
  | root =>
    intro x hx
    rw [List.mem_singleton] at hx
    subst hx
    have e := (Pth.root (up := up)).eq_path w.n1 up.length (Nat.zero_le _)
    exact ⟨[], by rw [pathA_eq w (by unfold hasT; simp)]; unfold rP; rw [e]; rfl, by unfold hasT; simp⟩
  | @up id p R h1 h2 r ih =>
    intro x hx
    rcases List.mem_cons.1 hx with rfl | hx
    · have hh : hasT up x = true := by unfold hasT; rw [h2]; rfl
      refine ⟨[], ?_, hh⟩
      have hk := w.rP_kid ((w.kid p x).2 h2)
      have e2 := w.pthR hk.2
      rw [pathA_eq w hh, List.nil_append, hk.1]
      congr 1
      have := r.eq_path w.n1 (max up.length R.length) (by omega)
      have h3 := e2.1.eq_path w.n1 (max up.length R.length) (by omega)
      rw [← this, h3]
    · obtain ⟨P, e, h3⟩ := ih x hx
      exact ⟨id :: P, by rw [e]; rfl, h3⟩
theorem path_split {id x : Int} (h : x ∈ pathA up id) : ∃ P, pathA up id = P ++ pathA up x ∧ hasT up x = true := by
  unfold pathA at h
  split at h
  · next e =>
    have := pth_split w (w.pthR e).1 x h
    rw [pathA_eq w e]; exact this
  · cases h
theorem pth_nodup {id : Int} {R : List Int} (h : Pth up id R) : (id :: R).Nodup := by
  induction h with
  | root => simp
  | @up id p R h1 h2 r ih =>
    rw [List.nodup_cons]
    refine ⟨fun hx => ?_, ih⟩
    obtain ⟨P, e, h3⟩ := pth_split w r id hx
    have hk := (w.rP_kid ((w.kid p id).2 h2)).1
    have e1 := r.eq_path w.n1 (max up.length R.length) (by omega)
    have e2 := (w.pthR r.has).1.eq_path w.n1 (max up.length R.length) (by have := (w.pthR r.has).2; omega)
    have e3 : R = rP up p := by rw [← e1, e2]
    have := congrArg List.length e
    rw [pathA_eq w h3, hk, ← e3] at this
    simp at this
    omega
theorem path_nodup (id : Int) : (pathA up id).Nodup := by
  unfold pathA
  split
  · next e => exact pth_nodup w (w.pthR e).1
  · simp
end
theorem idxN_mid {x : Int} : ∀ {P S : List Int}, x ∉ P → idxN x (P ++ x :: S) = some P.length
  | [], S, _ => by unfold idxN; rw [List.nil_append]; dsimp only; rw [if_pos rfl]; rfl
  | a :: P, S, h => by
    rw [List.mem_cons, not_or] at h
    rw [List.cons_append, idxN, if_neg (fun e => h.1 e.symm), idxN_mid h.2]; rfl
theorem above_mid {a x : Int} {P S : List Int} (h : x ∉ P) : aboveF (a :: P ++ x :: S) x = P := by
  unfold aboveF
  rw [List.cons_append, List.drop_succ_cons, List.drop_zero, idxN_mid h]
  simp
section
variable {k : SVT} {up : UP} (w : TW k up)
include w
theorem meet_split {a b : Int} (ha : hasT up a = true) (hb : hasT up b = true) : ∃ m A B, meetF (pathA up a) (pathA up b) = some m ∧ hasT up m = true ∧ pathA up a = A ++ pathA up m ∧ pathA up b = B ++ pathA up m ∧ (∀ x ∈ A, x ∉ pathA up b) ∧ ∀ x ∈ B, x ∉ pathA up a := by
  have h1 : (1 : Int) ∈ pathA up a ∧ (1 : Int) ∈ pathA up b := by
    have key : ∀ {id R}, Pth up id R → (1 : Int) ∈ id :: R := fun h => by
      induction h with
      | root => exact List.mem_cons_self ..
      | up _ _ _ ih => exact List.mem_cons_of_mem _ ih
    rw [pathA_eq w ha, pathA_eq w hb]
    exact ⟨key (w.pthR ha).1, key (w.pthR hb).1⟩
  have na := path_nodup w a
  have nb := path_nodup w b
  cases hm : meetF (pathA up a) (pathA up b) with
  | none =>
    unfold meetF at hm
    have := List.find?_eq_none.1 hm 1 h1.1
    simp [h1.2] at this
  | some m =>
    unfold meetF at hm
    obtain ⟨hmb, A, S, e, hA⟩ := List.find?_eq_some_iff_append.1 hm
    have hmb : m ∈ pathA up b := by simpa using hmb
    have hma : m ∈ pathA up a := by rw [e]; simp
    obtain ⟨P, e1, hh⟩ := path_split w hma
    obtain ⟨B, e2, _⟩ := path_split w hmb
    have hA' : ∀ x ∈ A, x ∉ pathA up b := fun x hx => by have := hA x hx; simpa using this
    have eP : A = P := by
      rw [e1, pathA_eq w hh] at e
      rw [e1, pathA_eq w hh] at na
      have hmP : m ∉ P := fun h => by
        rw [List.nodup_append] at na
        exact na.2.2 m h m (List.mem_cons_self ..) rfl
      have hmA : m ∉ A := fun h => hA' m h hmb
      have i1 := idxN_mid (S := rP up m) hmP
      have i2 := idxN_mid (S := S) hmA
      rw [e, i2] at i1
      have hl : A.length = P.length := Option.some.inj i1
      have := congrArg (List.take P.length) e
      rw [List.take_append_of_le_length (Nat.le_refl _), List.take_length, List.take_append_of_le_length (by omega), ← hl, List.take_length] at this
      exact this.symm
    subst eP
    refine ⟨m, A, B, rfl, hh, e1, e2, hA', fun x hx hxa => ?_⟩
    rw [e1] at hxa
    rcases List.mem_append.1 hxa with h | h
    · exact hA' x h (by rw [e2]; exact List.mem_append_left _ hx)
    · rw [e2, List.nodup_append] at nb
      exact nb.2.2 x hx x h rfl
theorem cross_law {a b : Int} (ha : hasT up a = true) (hb : hasT up b = true) {g : Int → Bool} (hg : ∀ x, g x = decide (x ∈ pathA up a)) :
    okL g (crossF up a b) ∧ ∀ x, (crossF up a b).foldl stI g x = decide (x ∈ pathA up b) := by
  unfold crossF
  by_cases hab : a = b
  · rw [if_pos hab]; exact ⟨trivial, fun x => by rw [← hab]; exact hg x⟩
  rw [if_neg hab]
  obtain ⟨m, A, B, hm, hh, eA, eB, dA, dB⟩ := meet_split w ha hb
  have na := path_nodup w a
  have nb := path_nodup w b
  rw [hm]
  dsimp only
  have pm := pathA_eq w hh
  by_cases h1 : m = a
  · rw [if_pos h1]
    subst h1
    cases B with
    | nil =>
      exfalso
      rw [List.nil_append, pathA_eq w hb, pm] at eB
      injection eB with e _; exact hab e.symm
    | cons c B =>
      have ec : c = b := by
        rw [pathA_eq w hb, List.cons_append] at eB
        injection eB with e _; exact e.symm
      subst ec
      have hmB : m ∉ B := fun h => dB m (List.mem_cons_of_mem _ h) (by rw [pm]; exact List.mem_cons_self ..)
      have eab : aboveF (pathA up c) m = B := by rw [eB, pm]; exact above_mid hmB
      rw [eab]
      rw [eB, List.nodup_append] at nb
      have nB := (List.nodup_cons.1 nb.1)
      have s0 : ∀ x, stI g (m, false, 2) x = decide (x ∈ pathA up m) := fun x => by
        unfold stI
        dsimp only
        by_cases e : x = m
        · rw [if_pos e, e, pm]; simp
        · rw [if_neg e]; exact hg x
      have r1 := runsIn (d := 1) (by decide) (L := B.reverse) (g := stI g (m, false, 2)) (nodup_rev nB.2) fun i hi => by
        rw [s0]
        exact decide_eq_false (dB i (List.mem_cons_of_mem _ (List.mem_reverse.1 hi)))
      have r2 := runsIn (d := 0) (by decide) (L := [c]) (g := (B.reverse.map fun i => ((i, true, 1) : CS3)).foldl stI (stI g (m, false, 2))) (by simp) fun i hi => by
        rw [List.mem_singleton] at hi
        rw [r1.2, s0, hi, decide_eq_false (dB c (List.mem_cons_self ..)), decide_eq_false (by simpa using nB.1)]; rfl
      refine ⟨⟨?_, okL_app r1.1 r2.1⟩, fun x => ?_⟩
      · unfold okI
        rw [if_pos rfl]
        dsimp only
        rw [hg, pm]; simp
      · rw [List.cons_append, List.foldl_cons, List.foldl_append]
        have := r2.2 x
        rw [show ([c].map fun i => ((i, true, 0) : CS3)) = [(c, true, 0)] from rfl] at this
        rw [this, r1.2, s0, eB]
        simp only [List.mem_append, List.mem_cons, List.mem_reverse, List.mem_singleton]
        by_cases q1 : x ∈ pathA up m <;> by_cases q2 : x ∈ B <;> by_cases q3 : x = c <;> simp [q1, q2, q3]
  · rw [if_neg h1]
    cases A with
    | nil =>
      exfalso
      rw [List.nil_append, pathA_eq w ha, pm] at eA
      injection eA with e _; exact h1 e.symm
    | cons c A =>
      have ec : c = a := by
        rw [pathA_eq w ha, List.cons_append] at eA
        injection eA with e _; exact e.symm
      subst ec
      have hmA : m ∉ A := fun h => dA m (List.mem_cons_of_mem _ h) (by rw [eB, pm]; simp)
      have eaa : aboveF (pathA up c) m = A := by rw [eA, pm]; exact above_mid hmA
      rw [eA, List.nodup_append] at na
      have nA := (List.nodup_cons.1 na.1)
      have hgA : ∀ i ∈ c :: A, g i = true := fun i hi => by rw [hg, eA]; exact decide_eq_true (List.mem_append_left _ hi)
      have leave : ∀ d d' : Int, d ≠ 2 → d' ≠ 2 → okL g ((c, false, d) :: A.map fun i => (i, false, d')) ∧ ∀ x, ((c, false, d) :: A.map fun i => ((i, false, d') : CS3)).foldl stI g x = decide (x ∈ pathA up m) := fun d d' hd hd' => by
        have r0 := run_out hd (L := [c]) (g := g) (by simp) fun i hi => hgA i (by rw [List.mem_singleton] at hi; rw [hi]; exact List.mem_cons_self ..)
        have r1 := run_out hd' (L := A) (g := ([c].map fun i => ((i, false, d) : CS3)).foldl stI g) nA.2 fun i hi => by
          rw [r0.2, hgA i (List.mem_cons_of_mem _ hi)]
          simp only [List.mem_singleton, Bool.true_and, decide_eq_true_iff]
          rintro rfl; exact nA.1 hi
        refine ⟨okL_app r0.1 r1.1, fun x => ?_⟩
        have := r1.2 x
        rw [r0.2, hg, eA] at this
        rw [show ((c, false, d) :: A.map fun i => ((i, false, d') : CS3)) = ([c].map fun i => ((i, false, d) : CS3)) ++ A.map fun i => (i, false, d') from rfl, List.foldl_append, this]
        by_cases q1 : x ∈ pathA up m
        · have q2 : x ≠ c := fun e => na.2.2 c (List.mem_cons_self ..) x q1 e.symm
          have q3 : x ∉ A := fun h => na.2.2 x (List.mem_cons_of_mem _ h) x q1 rfl
          simp [q1, q2, q3]
        · by_cases q2 : x = c
          · rw [q2] at q1 ⊢; simp [q1]
          · by_cases q3 : x ∈ A <;> simp [q1, q2, q3]
      by_cases h2 : m = b
      · rw [if_pos h2]
        subst h2
        rw [eaa]
        obtain ⟨l1, l2⟩ := leave 0 1 (by decide) (by decide)
        refine ⟨okL_app l1 ⟨?_, trivial⟩, fun x => ?_⟩
        · unfold okI
          rw [if_pos rfl]
          show List.foldl stI g ((c, false, 0) :: A.map fun i => ((i, false, 1) : CS3)) m = true
          rw [l2, pm]; simp
        · rw [List.foldl_append]
          show stI (List.foldl stI g ((c, false, 0) :: A.map fun i => ((i, false, 1) : CS3))) (m, true, 2) x = _
          unfold stI
          dsimp only
          by_cases e : x = m
          · rw [if_pos e, e, pm]; simp
          · rw [if_neg e]; exact l2 x
      · rw [if_neg h2]
        cases B with
        | nil =>
          exfalso
          rw [List.nil_append, pathA_eq w hb, pm] at eB
          injection eB with e _; exact h2 e.symm
        | cons f B =>
          have ef : f = b := by
            rw [pathA_eq w hb, List.cons_append] at eB
            injection eB with e _; exact e.symm
          subst ef
          have hmB : m ∉ B := fun h => dB m (List.mem_cons_of_mem _ h) (by rw [eA, pm]; simp)
          have eab : aboveF (pathA up f) m = B := by rw [eB, pm]; exact above_mid hmB
          rw [eaa, eab]
          rw [eB, List.nodup_append] at nb
          have nB := (List.nodup_cons.1 nb.1)
          obtain ⟨l1, l2⟩ := leave 3 4 (by decide) (by decide)
          have r1 := runsIn (d := 4) (by decide) (L := B.reverse) (g := ((c, false, 3) :: A.map fun i => ((i, false, 4) : CS3)).foldl stI g) (nodup_rev nB.2) fun i hi => by
            rw [l2]
            exact decide_eq_false fun h => nb.2.2 i (List.mem_cons_of_mem _ (List.mem_reverse.1 hi)) i h rfl
          have r2 := runsIn (d := 3) (by decide) (L := [f]) (g := (B.reverse.map fun i => ((i, true, 4) : CS3)).foldl stI (((c, false, 3) :: A.map fun i => ((i, false, 4) : CS3)).foldl stI g)) (by simp) fun i hi => by
            rw [List.mem_singleton] at hi
            rw [r1.2, l2, hi, decide_eq_false (fun h => nb.2.2 f (List.mem_cons_self ..) f h rfl), decide_eq_false (by simpa using nB.1)]; rfl
          refine ⟨okL_app (okL_app l1 r1.1) (by rw [List.foldl_append]; exact r2.1), fun x => ?_⟩
          rw [List.foldl_append, List.foldl_append]
          have := r2.2 x
          rw [show ([f].map fun i => ((i, true, 3) : CS3)) = [(f, true, 3)] from rfl] at this
          rw [this, r1.2, l2, eB]
          by_cases q1 : x ∈ pathA up m <;> by_cases q2 : x ∈ B <;> by_cases q3 : x = f <;> simp [q1, q2, q3]
end
end Go.Proofs.YtbknacpdcdkjiaaGreat

/- Devices: Next, Feed, Allow. No condition. -/
namespace Go.Proofs.YtbknacpdcdkjiaaGreat
open Go Go.VM
set_option maxRecDepth 100000
attribute [local irreducible] PurV Pur Step RL W D ACalls Then InBlock Fini
set_option linter.unusedVariables false
set_option linter.unusedSimpArgs false
set_option maxHeartbeats 20000000
def DV.wait (d : DV) (l : List IN) : DV := ⟨d.a, d.g, d.f, d.s, d.held, d.hs, l⟩
def DV.next (d : DV) : Option (DV × IN) := match d.ws with
  | [] => none
  | i :: l => if d.f then none else some (if d.s && decide (1 ≤ i.k ∧ i.k ≤ 4) then (d.wait l).freeze else d.wait l, i)
def nextV (d : DV) : AV := match d.next with
  | none => .tup [d.enc, IN.z.enc, .val (.bool (false))]
  | some p => .tup [p.1.enc, p.2.enc, .val (.bool (true))]
theorem next_c (d : DV) (h : Heap) (hl : d.ws.length ≤ 1000000) : ACalls Tryz.prog 81 [d.enc] h (fun r h' => r = nextV d ∧ h' = h) := by
  by_cases hf : d.f = true
  · have e : nextV d = .tup [d.enc, IN.z.enc, .val (.bool (false))] := by
      unfold nextV DV.next
      cases d.ws with
      | nil => rfl
      | cons i l => rw [hf]; rfl
    rw [e]
    unfold DV.enc
    refine ACalls.intro Tryz.func81 rfl Tryz.ntmps81 Tryz.results81 (Nat.le_of_ble_eq_true rfl) ?_
    rw [hf]
    (repeat' (first|refine svz ⟨fun b hq=>?_⟩|refine svA ⟨?_⟩|refine svu ⟨fun u=>?_⟩|(refine svG (fun hg=>?_) (fun hg=>?_)<;>try exact svx)|refine svh (fun hb=>?_) (fun hb=>?_)|refine svb (fun b=>?_)|fail))
    refine fin_r (h' := h) (Q := fun r h' => r = _ ∧ h' = h) ?_; exact ⟨rfl, rfl⟩
  have hf : d.f = false := by simpa using hf
  cases hw : d.ws with
  | nil =>
    have e : nextV d = .tup [d.enc, IN.z.enc, .val (.bool (false))] := by unfold nextV DV.next; rw [hw]
    rw [e]
    unfold DV.enc
    rw [hw]
    refine ACalls.intro Tryz.func81 rfl Tryz.ntmps81 Tryz.results81 (Nat.le_of_ble_eq_true rfl) ?_
    rw [hf]
    (repeat' (first|refine svz ⟨fun b hq=>?_⟩|refine svA ⟨?_⟩|refine svu ⟨fun u=>?_⟩|(refine svG (fun hg=>?_) (fun hg=>?_)<;>try exact svx)|refine svh (fun hb=>?_) (fun hb=>?_)|refine svb (fun b=>?_)|fail))
    refine fin_r (h' := h) (Q := fun r h' => r = _ ∧ h' = h) ?_; exact ⟨rfl, rfl⟩
  | cons i l =>
    have cl := fun h => clnin_c l h (by rw [hw] at hl; simp at hl; omega)
    have fz := fun h => freeze_c ⟨d.a, d.g, false, true, d.held, d.hs, l⟩ h
    have e : nextV d = .tup [(if d.s && decide (1 ≤ i.k ∧ i.k ≤ 4) then (d.wait l).freeze else d.wait l).enc, i.enc, .val (.bool (true))] := by unfold nextV DV.next; rw [hw, hf]; rfl
    rw [e]
    clear e
    have hn : (i :: l).length = l.length + 1 := rfl
    have e1 : List.take ((List.map IN.enc (i :: l)).length - 1) (List.drop 1 (List.map IN.enc (i :: l))) = l.map IN.enc := by rw [List.map_cons, List.drop_succ_cons, List.drop_zero]; exact List.take_of_length_le (by simp)
    by_cases hs : d.s = true
    · by_cases h1 : 1 ≤ i.k
      · by_cases h2 : i.k ≤ 4
        · rw [if_pos (by rw [hs, decide_eq_true ⟨h1, h2⟩]; rfl)]
          unfold DV.enc at *
          dsimp only [DV.wait, DV.freeze] at *; rw [hw] at *; rw [hf]; (try rw [hs]); refine ACalls.intro Tryz.func81 rfl Tryz.ntmps81 Tryz.results81 (Nat.le_of_ble_eq_true rfl) ?_; (repeat' (first|refine svz ⟨fun b hq=>?_⟩|refine svA ⟨?_⟩|refine svu ⟨fun u=>?_⟩|(refine svG (fun hg=>?_) (fun hg=>?_)<;>try exact svx)|refine svh (fun hb=>?_) (fun hb=>?_)|refine svb (fun b=>?_)|fail)); rw [e1]; refine S.call ?_; refine (cl _).mono ?_; rintro r h' ⟨rfl, hh⟩; subst hh; (repeat' (first|refine svz ⟨fun b hq=>?_⟩|refine svA ⟨?_⟩|refine svu ⟨fun u=>?_⟩|(refine svG (fun hg=>?_) (fun hg=>?_)<;>try exact svx)|refine svh (fun hb=>?_) (fun hb=>?_)|refine svb (fun b=>?_)|fail))
          refine S.call ?_; refine (fz _).mono ?_; rintro r h' ⟨rfl, hh⟩; subst hh
          (repeat' (first|refine svz ⟨fun b hq=>?_⟩|refine svA ⟨?_⟩|refine svu ⟨fun u=>?_⟩|(refine svG (fun hg=>?_) (fun hg=>?_)<;>try exact svx)|refine svh (fun hb=>?_) (fun hb=>?_)|refine svb (fun b=>?_)|fail))
          refine W.dr (.ro (.rw (.rw (.ro (.done _))))) ?_; (repeat' (first|refine svz ⟨fun b hq=>?_⟩|refine svA ⟨?_⟩|refine svu ⟨fun u=>?_⟩|(refine svG (fun hg=>?_) (fun hg=>?_)<;>try exact svx)|refine svh (fun hb=>?_) (fun hb=>?_)|refine svb (fun b=>?_)|fail)); refine fin_r (h' := h) (Q := fun r h' => r = _ ∧ h' = h) ?_; exact ⟨rfl, rfl⟩
        · rw [if_neg (by rw [decide_eq_false (fun q => h2 q.2)]; simp)]
          unfold DV.enc at *
          dsimp only [DV.wait, DV.freeze] at *; rw [hw] at *; rw [hf]; (try rw [hs]); refine ACalls.intro Tryz.func81 rfl Tryz.ntmps81 Tryz.results81 (Nat.le_of_ble_eq_true rfl) ?_; (repeat' (first|refine svz ⟨fun b hq=>?_⟩|refine svA ⟨?_⟩|refine svu ⟨fun u=>?_⟩|(refine svG (fun hg=>?_) (fun hg=>?_)<;>try exact svx)|refine svh (fun hb=>?_) (fun hb=>?_)|refine svb (fun b=>?_)|fail)); rw [e1]; refine S.call ?_; refine (cl _).mono ?_; rintro r h' ⟨rfl, hh⟩; subst hh; (repeat' (first|refine svz ⟨fun b hq=>?_⟩|refine svA ⟨?_⟩|refine svu ⟨fun u=>?_⟩|(refine svG (fun hg=>?_) (fun hg=>?_)<;>try exact svx)|refine svh (fun hb=>?_) (fun hb=>?_)|refine svb (fun b=>?_)|fail))
          refine W.dr (.ro (.rw (.rw (.ro (.done _))))) ?_; (repeat' (first|refine svz ⟨fun b hq=>?_⟩|refine svA ⟨?_⟩|refine svu ⟨fun u=>?_⟩|(refine svG (fun hg=>?_) (fun hg=>?_)<;>try exact svx)|refine svh (fun hb=>?_) (fun hb=>?_)|refine svb (fun b=>?_)|fail)); refine fin_r (h' := h) (Q := fun r h' => r = _ ∧ h' = h) ?_; exact ⟨rfl, rfl⟩
      · rw [if_neg (by rw [decide_eq_false (fun q => h1 q.1)]; simp)]
        unfold DV.enc at *
        dsimp only [DV.wait, DV.freeze] at *; rw [hw] at *; rw [hf]; (try rw [hs]); refine ACalls.intro Tryz.func81 rfl Tryz.ntmps81 Tryz.results81 (Nat.le_of_ble_eq_true rfl) ?_; (repeat' (first|refine svz ⟨fun b hq=>?_⟩|refine svA ⟨?_⟩|refine svu ⟨fun u=>?_⟩|(refine svG (fun hg=>?_) (fun hg=>?_)<;>try exact svx)|refine svh (fun hb=>?_) (fun hb=>?_)|refine svb (fun b=>?_)|fail)); rw [e1]; refine S.call ?_; refine (cl _).mono ?_; rintro r h' ⟨rfl, hh⟩; subst hh; (repeat' (first|refine svz ⟨fun b hq=>?_⟩|refine svA ⟨?_⟩|refine svu ⟨fun u=>?_⟩|(refine svG (fun hg=>?_) (fun hg=>?_)<;>try exact svx)|refine svh (fun hb=>?_) (fun hb=>?_)|refine svb (fun b=>?_)|fail))
        refine W.dr (.ro (.rw (.rw (.ro (.done _))))) ?_; (repeat' (first|refine svz ⟨fun b hq=>?_⟩|refine svA ⟨?_⟩|refine svu ⟨fun u=>?_⟩|(refine svG (fun hg=>?_) (fun hg=>?_)<;>try exact svx)|refine svh (fun hb=>?_) (fun hb=>?_)|refine svb (fun b=>?_)|fail)); refine fin_r (h' := h) (Q := fun r h' => r = _ ∧ h' = h) ?_; exact ⟨rfl, rfl⟩
    · have hs : d.s = false := by simpa using hs
      rw [if_neg (by rw [hs]; simp)]
      unfold DV.enc at *
      dsimp only [DV.wait, DV.freeze] at *; rw [hw] at *; rw [hf]; (try rw [hs]); refine ACalls.intro Tryz.func81 rfl Tryz.ntmps81 Tryz.results81 (Nat.le_of_ble_eq_true rfl) ?_; (repeat' (first|refine svz ⟨fun b hq=>?_⟩|refine svA ⟨?_⟩|refine svu ⟨fun u=>?_⟩|(refine svG (fun hg=>?_) (fun hg=>?_)<;>try exact svx)|refine svh (fun hb=>?_) (fun hb=>?_)|refine svb (fun b=>?_)|fail)); rw [e1]; refine S.call ?_; refine (cl _).mono ?_; rintro r h' ⟨rfl, hh⟩; subst hh; (repeat' (first|refine svz ⟨fun b hq=>?_⟩|refine svA ⟨?_⟩|refine svu ⟨fun u=>?_⟩|(refine svG (fun hg=>?_) (fun hg=>?_)<;>try exact svx)|refine svh (fun hb=>?_) (fun hb=>?_)|refine svb (fun b=>?_)|fail))
      refine W.dr (.ro (.rw (.rw (.ro (.done _))))) ?_; (repeat' (first|refine svz ⟨fun b hq=>?_⟩|refine svA ⟨?_⟩|refine svu ⟨fun u=>?_⟩|(refine svG (fun hg=>?_) (fun hg=>?_)<;>try exact svx)|refine svh (fun hb=>?_) (fun hb=>?_)|refine svb (fun b=>?_)|fail)); refine fin_r (h' := h) (Q := fun r h' => r = _ ∧ h' = h) ?_; exact ⟨rfl, rfl⟩
end Go.Proofs.YtbknacpdcdkjiaaGreat

/- Devices: Feed, Allow. No condition. -/
namespace Go.Proofs.YtbknacpdcdkjiaaGreat
open Go Go.VM
set_option maxRecDepth 100000
attribute [local irreducible] PurV Pur Step RL W D ACalls Then InBlock Fini
set_option linter.unusedVariables false
set_option linter.unusedSimpArgs false
set_option maxHeartbeats 20000000
theorem feed_c (d : DV) (i : IN) (h : Heap) (hl : d.ws.length < 256) : ACalls Tryz.prog 40 [d.enc, i.enc] h (fun r h' => r = .tup [(d.wait (d.ws ++ [i])).enc, .val (.int .i64 (0))] ∧ h' = h) := by
  have hm : (d.ws.map IN.enc).length = d.ws.length := List.length_map ..
  have e1 : (d.ws ++ [i]).map IN.enc = d.ws.map IN.enc ++ [i.enc] := by simp
  have es : ∀ Z, splice (List.replicate d.ws.length Z) 0 (d.ws.map IN.enc) = d.ws.map IN.enc := fun Z => by
    unfold splice
    rw [List.take_zero, List.nil_append, List.drop_of_length_le (by simp)]; simp
  unfold DV.enc DV.wait
  dsimp only
  rw [e1, IN.enc_eq i]
  refine fz (g := fun v => .tup [.agg [.val (.int .i64 (d.a.cl)), .val (.int .u32 (d.a.w)), .val (.bool (d.a.ow)), .val (.int .i64 (d.a.mask)), .val (.bool (d.a.au)), .val (.bool (d.a.pa)), .val (.int .i64 (d.a.code)), .val (.int .u32 (d.a.time)), .val (.bool (d.g)), .val (.bool (d.f)), .val (.bool (d.s)), .val (.int .i64 (d.held.k)), .val (.int .i64 (d.held.c)), .val (.int .i64 (d.held.x)), .val (.int .i64 (d.held.y)), .val (.int .u32 (d.held.t)), .val (.int .i64 (d.held.n)), .val (.bool (d.hs)), v], .val (.int .i64 (0))]) (g' := fun v => .tup [.agg [.val (.int .i64 (d.a.cl)), .val (.int .u32 (d.a.w)), .val (.bool (d.a.ow)), .val (.int .i64 (d.a.mask)), .val (.bool (d.a.au)), .val (.bool (d.a.pa)), .val (.int .i64 (d.a.code)), .val (.int .u32 (d.a.time)), .val (.bool (d.g)), .val (.bool (d.f)), .val (.bool (d.s)), .val (.int .i64 (d.held.k)), .val (.int .i64 (d.held.c)), .val (.int .i64 (d.held.x)), .val (.int .i64 (d.held.y)), .val (.int .u32 (d.held.t)), .val (.int .i64 (d.held.n)), .val (.bool (d.hs)), v], .val (.int .i64 (0))]) (k := 6) (e := 47) (l := d.ws.map IN.enc ++ [.agg [.val (.int .i64 ((i).k)), .val (.int .i64 ((i).c)), .val (.int .i64 ((i).x)), .val (.int .i64 ((i).y)), .val (.int .u32 ((i).t)), .val (.int .i64 ((i).n))]]) (fun v => by (repeat' (first | exact Frz.hit | apply Frz.aggc | apply Frz.tupc | exact Frz.aggn | exact Frz.tupn | exact Frz.keep _))) ?_
  refine ACalls.intro Tryz.func40 rfl Tryz.ntmps40 Tryz.results40 (Nat.le_of_ble_eq_true rfl) ?_
  (repeat' (first | (refine iR2 ?_; refine r2b ?_; refine R2.one ?_) | (refine iS ?_; refine iN ?_; refine S.build1r ?_) | (refine iS ?_; refine iMu ?_; refine S.mapU ?_) | refine svz ⟨fun b hq=>?_⟩|refine svT ⟨?_⟩|refine svu ⟨fun u=>?_⟩|(refine svG (fun hg=>?_) (fun hg=>?_)<;>try exact svx)|refine svh (fun hb=>?_) (fun hb=>?_)|refine svb (fun b=>?_) | refine sva ?_ | refine sv3 ?_ | fail))
  rw [es]
  refine fin_r (h' := .own u 6 (d.ws.map IN.enc ++ [.agg [.val (.int .i64 ((i).k)), .val (.int .i64 ((i).c)), .val (.int .i64 ((i).x)), .val (.int .i64 ((i).y)), .val (.int .u32 ((i).t)), .val (.int .i64 ((i).n))]]) 47 :: h) (Q := fun r h' => ∃ v, r = _ ∧ h' = _) ?_
  exact ⟨u, rfl, rfl⟩
instance tf_thaw : TFun Tryz.prog 92 := ⟨by kernel_rfl⟩
theorem allow_0 (d : DV) (h : Heap) (hf : d.f = true) : ACalls Tryz.prog 55 [d.enc, .val (.int .i64 (0))] h (fun r h' => r = .tup [d.thaw.enc, IN.z.enc, .val (.bool (false))] ∧ h' = h) := by
  have tc := fun h => thaw_c d h
  unfold DV.enc at *
  rw [hf] at *; refine ACalls.intro Tryz.func55 rfl Tryz.ntmps55 Tryz.results55 (Nat.le_of_ble_eq_true rfl) ?_; (repeat' (first|refine svz ⟨fun b hq=>?_⟩|refine svA ⟨?_⟩|refine svu ⟨fun u=>?_⟩|(refine svG (fun hg=>?_) (fun hg=>?_)<;>try exact svx)|refine svh (fun hb=>?_) (fun hb=>?_)|refine svb (fun b=>?_)|fail)); refine S.mkb ?_; (repeat' (first|refine svz ⟨fun b hq=>?_⟩|refine svA ⟨?_⟩|refine svu ⟨fun u=>?_⟩|(refine svG (fun hg=>?_) (fun hg=>?_)<;>try exact svx)|refine svh (fun hb=>?_) (fun hb=>?_)|refine svb (fun b=>?_)|fail)); refine S.mkb ?_; (repeat' (first|refine svz ⟨fun b hq=>?_⟩|refine svA ⟨?_⟩|refine svu ⟨fun u=>?_⟩|(refine svG (fun hg=>?_) (fun hg=>?_)<;>try exact svx)|refine svh (fun hb=>?_) (fun hb=>?_)|refine svb (fun b=>?_)|fail)); refine S.mkb ?_; (repeat' (first|refine svz ⟨fun b hq=>?_⟩|refine svA ⟨?_⟩|refine svu ⟨fun u=>?_⟩|(refine svG (fun hg=>?_) (fun hg=>?_)<;>try exact svx)|refine svh (fun hb=>?_) (fun hb=>?_)|refine svb (fun b=>?_)|fail)); refine step_v (pur_buildarr (by repeat (first | exact EvalP.nil | (apply EvalP.cons; rfl))) rfl) rfl ?_; (repeat' (first|refine svz ⟨fun b hq=>?_⟩|refine svA ⟨?_⟩|refine svu ⟨fun u=>?_⟩|(refine svG (fun hg=>?_) (fun hg=>?_)<;>try exact svx)|refine svh (fun hb=>?_) (fun hb=>?_)|refine svb (fun b=>?_)|fail)); refine S.Ar1 0 ?_; (repeat' (first|refine svz ⟨fun b hq=>?_⟩|refine svA ⟨?_⟩|refine svu ⟨fun u=>?_⟩|(refine svG (fun hg=>?_) (fun hg=>?_)<;>try exact svx)|refine svh (fun hb=>?_) (fun hb=>?_)|refine svb (fun b=>?_)|fail)); refine S.call_bnd ?_; refine (tc _).mono ?_; rintro r h' ⟨rfl, hh⟩; subst hh; (repeat' (first|refine svz ⟨fun b hq=>?_⟩|refine svA ⟨?_⟩|refine svu ⟨fun u=>?_⟩|(refine svG (fun hg=>?_) (fun hg=>?_)<;>try exact svx)|refine svh (fun hb=>?_) (fun hb=>?_)|refine svb (fun b=>?_)|fail)); refine fin_r (h' := h) (Q := fun r h' => r = _ ∧ h' = h) ?_; exact ⟨rfl, rfl⟩
end Go.Proofs.YtbknacpdcdkjiaaGreat
