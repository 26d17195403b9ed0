/- An input's event. No condition. -/
import Derived.Test.YtbknacpdcdkjiaaGreatF9
namespace Go.Proofs.YtbknacpdcdkjiaaGreat
open Go Go.VM
attribute [local irreducible] PurV Pur Step RL W D ACalls Then InBlock Fini
set_option linter.unusedVariables false
set_option linter.unusedSimpArgs false
set_option maxHeartbeats 20000000
structure RT.Ok (s : RT) : Prop where
  tw : TW s.k s.up
  ul : s.up.length ≤ 1000
  vo : VOk s.V
  ol : s.o.length ≤ 1000
set_option maxRecDepth 100000 in
theorem event_c (b0 : Nat) (v : Value) (s : RT) (i : IN) (w : Int) (cl : List Int) (st : Int) (L : List SD) (H : Heap) (ok : s.Ok) (hl : L.length + cl.length ≤ 1000000000) (hw : 0 ≤ w ∧ w ≤ 4294967295) (ht : 0 ≤ i.t ∧ i.t ≤ 4294967295) :
    ACalls Tryz.prog 114 [.val (.pointer (some ⟨b0, 0, none⟩)), i.enc, .agg [AV.val (.int .u32 (w)), .ro 1 (ints .i64 cl)], AV.val (.int .i64 (st))] (.box b0 (runC s (.val v)) 135 :: .own v 7 (L.map SD.enc) 66 :: H)
      (fun r h' => ∃ v' ch sx sy, r = .tup [] ∧ h' = .box b0 (runC s (.val v')) 135 :: .own v' 7 ((L ++ cl.map fun c => (⟨c, i.k, [w, ch, i.c, st, sx, sy, s.x, s.y, i.t]⟩ : SD)).map SD.enc) 66 :: H) := by
  have pc := fun h => path_all ok.tw (by have := ok.ul; omega) s.un h
  have ic := fun h => idx_c (pathA s.up s.un) w h
  have oc := fun h => vorigN_c s.o s.V w h
  have sc := fun v ch sx sy => say_c b0 v s i.k cl [w, ch, i.c, st, sx, sy, s.x, s.y, i.t] L H hl (by simp)
  obtain ⟨ox, oy, og, eo, hox, hoy⟩ : ∃ x y g, origV (lkF s.V w) = .tup [.agg [AV.val (.int .i64 (x)), AV.val (.int .i64 (y))], AV.val (.bool (g))] ∧ (-1000000 ≤ x ∧ x ≤ 1000000) ∧ -1000000 ≤ y ∧ y ≤ 1000000 := by
    cases e : lkF s.V w with
    | none => exact ⟨0, 0, false, rfl, by omega, by omega⟩
    | some t => have := ok.vo w t e; exact ⟨t.x, t.y, true, rfl, by omega, by omega⟩
  rw [eo] at oc
  have l1 := fun h => less_c s.x ox h hox
  have l2 := fun h => less_c s.y oy h hoy
  unfold runC encW encT at *
  rw [IN.enc_eq i]
  refine ACalls.intro Tryz.func114 rfl Tryz.ntmps114 Tryz.results114 (Nat.le_of_ble_eq_true rfl) ?_
  (repeat' (first|refine svz ⟨fun b hq=>?_⟩|refine svA ⟨?_⟩|refine svu ⟨fun u=>?_⟩|(refine svG (fun hg=>?_) (fun hg=>?_)<;>try exact svx)|refine svh (fun hb=>?_) (fun hb=>?_)|refine svb (fun b=>?_)|fail))
  refine R2.C (pc _) ?_
  (repeat' (first|refine svz ⟨fun b hq=>?_⟩|refine svA ⟨?_⟩|refine svu ⟨fun u=>?_⟩|(refine svG (fun hg=>?_) (fun hg=>?_)<;>try exact svx)|refine svh (fun hb=>?_) (fun hb=>?_)|refine svb (fun b=>?_)|fail))
  refine S.call ?_
  refine (ic _).mono ?_
  rintro r h' ⟨rfl, hh⟩
  subst hh
  unfold idxI
  cases hi : idxN w (pathA s.up s.un) with
  | none =>
    dsimp only
    (repeat' (first|refine svz ⟨fun b hq=>?_⟩|refine svA ⟨?_⟩|refine svu ⟨fun u=>?_⟩|(refine svG (fun hg=>?_) (fun hg=>?_)<;>try exact svx)|refine svh (fun hb=>?_) (fun hb=>?_)|refine svb (fun b=>?_)|fail))
    refine R2.C (oc _) ?_; (repeat' (first|refine svz ⟨fun b hq=>?_⟩|refine svA ⟨?_⟩|refine svu ⟨fun u=>?_⟩|(refine svG (fun hg=>?_) (fun hg=>?_)<;>try exact svx)|refine svh (fun hb=>?_) (fun hb=>?_)|refine svb (fun b=>?_)|fail)); refine R2.C (l1 _) ?_; (repeat' (first|refine svz ⟨fun b hq=>?_⟩|refine svA ⟨?_⟩|refine svu ⟨fun u=>?_⟩|(refine svG (fun hg=>?_) (fun hg=>?_)<;>try exact svx)|refine svh (fun hb=>?_) (fun hb=>?_)|refine svb (fun b=>?_)|fail)); refine R2.C (l2 _) ?_; (repeat' (first|refine svz ⟨fun b hq=>?_⟩|refine svA ⟨?_⟩|refine svu ⟨fun u=>?_⟩|(refine svG (fun hg=>?_) (fun hg=>?_)<;>try exact svx)|refine svh (fun hb=>?_) (fun hb=>?_)|refine svb (fun b=>?_)|fail)); refine S.buildr (xs := [.tmp 53, .tmp 55, .tmp 57, .tmp 58, .tmp 66, .tmp 74, .tmp 79, .tmp 84, .tmp 87]) (vs := ints .i64 [w, 0, i.c, st, lessF s.x ox, lessF s.y oy, s.x, s.y, i.t]) ⟨_, rfl, ?_⟩ rfl rfl (by repeat (first | exact Evals.nil | (apply Evals.cons; rfl))) (by simp [ints, AV.cells]) (by repeat (first | exact Ones.nil | refine Ones.cons rfl ?_ | refine Ones.own (by (fail_if_success (apply memG)); repeat (first | exact List.Mem.head _ | assumption | refine List.Mem.tail _ ?_)) ?_)) (by omega) rfl; refine R2.melt ?_; refine R2.B ?_; refine Step.le (s' := ⟨90, [(46, .val (.pointer (some ⟨b0, 0, none⟩))), (48, AV.val (.int .i64 (i.k))), (50, .ro 1 (ints .i64 cl)), (88, .ro 1 (ints .i64 [w, 0, i.c, st, lessF s.x ox, lessF s.y oy, s.x, s.y, i.t]))], .box b0 (runC s (.val v)) 135 :: .own v 7 (L.map SD.enc) 66 :: H⟩) lee ?_; refine S.call ?_; refine (sc v (0) (lessF s.x ox) (lessF s.y oy)).mono ?_; rintro r h2 ⟨v2, rfl, hh⟩; subst hh; refine kd ?_; (repeat' (first|refine svz ⟨fun b hq=>?_⟩|refine svA ⟨?_⟩|refine svu ⟨fun u=>?_⟩|(refine svG (fun hg=>?_) (fun hg=>?_)<;>try exact svx)|refine svh (fun hb=>?_) (fun hb=>?_)|refine svb (fun b=>?_)|fail)); exact fin_n (h' := .box b0 (runC s (.val v2)) 135 :: .own v2 7 ((L ++ cl.map fun c => (⟨c, i.k, [w, 0, i.c, st, lessF s.x ox, lessF s.y oy, s.x, s.y, i.t]⟩ : SD)).map SD.enc) 66 :: H) ⟨v2, 0, _, _, rfl, rfl⟩
  | some j =>
    dsimp only
    cases j with
    | zero =>
      (repeat' (first|refine svz ⟨fun b hq=>?_⟩|refine svA ⟨?_⟩|refine svu ⟨fun u=>?_⟩|(refine svG (fun hg=>?_) (fun hg=>?_)<;>try exact svx)|refine svh (fun hb=>?_) (fun hb=>?_)|refine svb (fun b=>?_)|fail))
      refine R2.C (oc _) ?_; (repeat' (first|refine svz ⟨fun b hq=>?_⟩|refine svA ⟨?_⟩|refine svu ⟨fun u=>?_⟩|(refine svG (fun hg=>?_) (fun hg=>?_)<;>try exact svx)|refine svh (fun hb=>?_) (fun hb=>?_)|refine svb (fun b=>?_)|fail)); refine R2.C (l1 _) ?_; (repeat' (first|refine svz ⟨fun b hq=>?_⟩|refine svA ⟨?_⟩|refine svu ⟨fun u=>?_⟩|(refine svG (fun hg=>?_) (fun hg=>?_)<;>try exact svx)|refine svh (fun hb=>?_) (fun hb=>?_)|refine svb (fun b=>?_)|fail)); refine R2.C (l2 _) ?_; (repeat' (first|refine svz ⟨fun b hq=>?_⟩|refine svA ⟨?_⟩|refine svu ⟨fun u=>?_⟩|(refine svG (fun hg=>?_) (fun hg=>?_)<;>try exact svx)|refine svh (fun hb=>?_) (fun hb=>?_)|refine svb (fun b=>?_)|fail)); refine S.buildr (xs := [.tmp 53, .tmp 55, .tmp 57, .tmp 58, .tmp 66, .tmp 74, .tmp 79, .tmp 84, .tmp 87]) (vs := ints .i64 [w, 0, i.c, st, lessF s.x ox, lessF s.y oy, s.x, s.y, i.t]) ⟨_, rfl, ?_⟩ rfl rfl (by repeat (first | exact Evals.nil | (apply Evals.cons; rfl))) (by simp [ints, AV.cells]) (by repeat (first | exact Ones.nil | refine Ones.cons rfl ?_ | refine Ones.own (by (fail_if_success (apply memG)); repeat (first | exact List.Mem.head _ | assumption | refine List.Mem.tail _ ?_)) ?_)) (by omega) rfl; refine R2.melt ?_; refine R2.B ?_; refine Step.le (s' := ⟨90, [(46, .val (.pointer (some ⟨b0, 0, none⟩))), (48, AV.val (.int .i64 (i.k))), (50, .ro 1 (ints .i64 cl)), (88, .ro 1 (ints .i64 [w, 0, i.c, st, lessF s.x ox, lessF s.y oy, s.x, s.y, i.t]))], .box b0 (runC s (.val v)) 135 :: .own v 7 (L.map SD.enc) 66 :: H⟩) lee ?_; refine S.call ?_; refine (sc v (0) (lessF s.x ox) (lessF s.y oy)).mono ?_; rintro r h2 ⟨v2, rfl, hh⟩; subst hh; refine kd ?_; (repeat' (first|refine svz ⟨fun b hq=>?_⟩|refine svA ⟨?_⟩|refine svu ⟨fun u=>?_⟩|(refine svG (fun hg=>?_) (fun hg=>?_)<;>try exact svx)|refine svh (fun hb=>?_) (fun hb=>?_)|refine svb (fun b=>?_)|fail)); exact fin_n (h' := .box b0 (runC s (.val v2)) 135 :: .own v2 7 ((L ++ cl.map fun c => (⟨c, i.k, [w, 0, i.c, st, lessF s.x ox, lessF s.y oy, s.x, s.y, i.t]⟩ : SD)).map SD.enc) 66 :: H) ⟨v2, 0, _, _, rfl, rfl⟩
    | succ j =>
      have hm := idxN_lt hi
      obtain ⟨ch, hch⟩ : ∃ ch, (pathA s.up s.un)[j]? = some ch := ⟨_, List.getElem?_eq_getElem (by have := (List.getElem?_eq_some_iff.1 hm).1; omega)⟩
      have hjl : j + 1 < s.up.length + 1 := by have := (List.getElem?_eq_some_iff.1 hm).1; have := pathA_len ok.tw s.un; omega
      have hul := ok.ul
      have hjp : j + 1 < (pathA s.up s.un).length := (List.getElem?_eq_some_iff.1 hm).1
      have hch2 : (pathA s.up s.un)[((j : Int) + 1 - 1).toNat]? = some ch := by rw [show ((j : Int) + 1 - 1).toNat = j by omega]; exact hch
      rw [show ((j + 1 : Nat) : Int) = (j : Int) + 1 by omega]
      (repeat' (first|refine svz ⟨fun b hq=>?_⟩|refine svA ⟨?_⟩|refine svu ⟨fun u=>?_⟩|(refine svG (fun hg=>?_) (fun hg=>?_)<;>try exact svx)|refine svh (fun hb=>?_) (fun hb=>?_)|refine svb (fun b=>?_)|fail))
      refine R2.C (oc _) ?_; (repeat' (first|refine svz ⟨fun b hq=>?_⟩|refine svA ⟨?_⟩|refine svu ⟨fun u=>?_⟩|(refine svG (fun hg=>?_) (fun hg=>?_)<;>try exact svx)|refine svh (fun hb=>?_) (fun hb=>?_)|refine svb (fun b=>?_)|fail)); refine R2.C (l1 _) ?_; (repeat' (first|refine svz ⟨fun b hq=>?_⟩|refine svA ⟨?_⟩|refine svu ⟨fun u=>?_⟩|(refine svG (fun hg=>?_) (fun hg=>?_)<;>try exact svx)|refine svh (fun hb=>?_) (fun hb=>?_)|refine svb (fun b=>?_)|fail)); refine R2.C (l2 _) ?_; (repeat' (first|refine svz ⟨fun b hq=>?_⟩|refine svA ⟨?_⟩|refine svu ⟨fun u=>?_⟩|(refine svG (fun hg=>?_) (fun hg=>?_)<;>try exact svx)|refine svh (fun hb=>?_) (fun hb=>?_)|refine svb (fun b=>?_)|fail)); refine S.buildr (xs := [.tmp 53, .tmp 55, .tmp 57, .tmp 58, .tmp 66, .tmp 74, .tmp 79, .tmp 84, .tmp 87]) (vs := ints .i64 [w, IntKind.wrap .i64 ch, i.c, st, lessF s.x ox, lessF s.y oy, s.x, s.y, i.t]) ⟨_, rfl, ?_⟩ rfl rfl (by repeat (first | exact Evals.nil | (apply Evals.cons; rfl))) (by simp [ints, AV.cells]) (by repeat (first | exact Ones.nil | refine Ones.cons rfl ?_ | refine Ones.own (by (fail_if_success (apply memG)); repeat (first | exact List.Mem.head _ | assumption | refine List.Mem.tail _ ?_)) ?_)) (by omega) rfl; refine R2.melt ?_; refine R2.B ?_; refine Step.le (s' := ⟨90, [(46, .val (.pointer (some ⟨b0, 0, none⟩))), (48, AV.val (.int .i64 (i.k))), (50, .ro 1 (ints .i64 cl)), (88, .ro 1 (ints .i64 [w, IntKind.wrap .i64 ch, i.c, st, lessF s.x ox, lessF s.y oy, s.x, s.y, i.t]))], .box b0 (runC s (.val v)) 135 :: .own v 7 (L.map SD.enc) 66 :: H⟩) lee ?_; refine S.call ?_; refine (sc v (IntKind.wrap .i64 ch) (lessF s.x ox) (lessF s.y oy)).mono ?_; rintro r h2 ⟨v2, rfl, hh⟩; subst hh; refine kd ?_; (repeat' (first|refine svz ⟨fun b hq=>?_⟩|refine svA ⟨?_⟩|refine svu ⟨fun u=>?_⟩|(refine svG (fun hg=>?_) (fun hg=>?_)<;>try exact svx)|refine svh (fun hb=>?_) (fun hb=>?_)|refine svb (fun b=>?_)|fail)); exact fin_n (h' := .box b0 (runC s (.val v2)) 135 :: .own v2 7 ((L ++ cl.map fun c => (⟨c, i.k, [w, IntKind.wrap .i64 ch, i.c, st, lessF s.x ox, lessF s.y oy, s.x, s.y, i.t]⟩ : SD)).map SD.enc) 66 :: H) ⟨v2, IntKind.wrap .i64 ch, _, _, rfl, rfl⟩
end Go.Proofs.YtbknacpdcdkjiaaGreat
