/- TopFocus. No condition. -/
import Derived.Test.YtbknacpdcdkjiaaGreatF35
namespace Go.Proofs.YtbknacpdcdkjiaaGreat
open Go Go.VM
attribute [local irreducible] PurV Pur Step RL W D ACalls Then InBlock Fini
set_option linter.unusedVariables false
set_option linter.unusedSimpArgs false
set_option maxHeartbeats 20000000
set_option maxRecDepth 100000 in
theorem tfocus_c (l : List FW) (at' x y : Int) (keys : List Int) (gr : Bool) (H : Heap) (hl : l.length ≤ 9223372036854775807) (okl : ∀ w ∈ l, w.Ok) (ha : 0 ≤ at' ∧ at' ≤ 255) (hx : 0 ≤ x ∧ x ≤ 255) (hy : 0 ≤ y ∧ y ≤ 255) (hkl : keys.length ≤ 9223372036854775807) (hk : ∀ k ∈ keys, 0 ≤ k ∧ k ≤ 255) :
    ACalls Tryz.prog 3 [.ro 6 (l.map FW.enc), AV.val (.int .u8 (at')), AV.val (.int .u8 (x)), AV.val (.int .u8 (y)), .ro 1 (ints .u8 keys), AV.val (.bool (gr))] H (fun r h' => r = AV.val (.bool (true)) ∧ h' = H) := by
  have aw := fun h => fawake_c h
  have mk := fun h => fmade_c l x y h hl okl hx hy
  refine ACalls.intro Tryz.func3 rfl Tryz.ntmps3 Tryz.results3 (Nat.le_of_ble_eq_true rfl) ?_
  (repeat' (first|refine svz ⟨fun b hq=>?_⟩|refine svA ⟨?_⟩|refine svu ⟨fun u=>?_⟩|(refine svG (fun hg=>?_) (fun hg=>?_)<;>try exact svx)|refine svh (fun hb=>?_) (fun hb=>?_)|refine svb (fun b=>?_)|fail))
  refine S.call ?_; refine (aw _).mono ?_; rintro r h' ⟨rfl, hh⟩; subst hh
  (repeat' (first|refine svz ⟨fun b hq=>?_⟩|refine svA ⟨?_⟩|refine svu ⟨fun u=>?_⟩|(refine svG (fun hg=>?_) (fun hg=>?_)<;>try exact svx)|refine svh (fun hb=>?_) (fun hb=>?_)|refine svb (fun b=>?_)|fail))
  refine S.call ?_
  refine (mk _).mono ?_
  rintro r h' ⟨⟨h8, rfl⟩ | ⟨_, s, rfl⟩, hh⟩
  rotate_left
  · subst hh
    unfold RT.enc
    (repeat' (first|refine svz ⟨fun b hq=>?_⟩|refine svA ⟨?_⟩|refine svu ⟨fun u=>?_⟩|(refine svG (fun hg=>?_) (fun hg=>?_)<;>try exact svx)|refine svh (fun hb=>?_) (fun hb=>?_)|refine svb (fun b=>?_)|fail))
    exact fin_r (h' := h') ⟨rfl, rfl⟩
  subst hh
  have hI := stZ_inv okl h8 (x % 12) (y % 12)
  generalize stZ (fsF l l.length) (x % 12) (y % 12) = s at *
  unfold RT.enc
  clear aw mk
  by_cases hkk : keys.length ≤ 8
  rotate_left
  · (repeat' (first|refine svz ⟨fun b hq=>?_⟩|refine svA ⟨?_⟩|refine svu ⟨fun u=>?_⟩|(refine svG (fun hg=>?_) (fun hg=>?_)<;>try exact svx)|refine svh (fun hb=>?_) (fun hb=>?_)|refine svb (fun b=>?_)|fail))
    exact fin_r (h' := h') ⟨rfl, rfl⟩
  revert h'; intro H
  (repeat' (first | (refine iS ?_; refine iMu ?_; refine S.mapU ?_) | refine svz ⟨fun b hq=>?_⟩|refine svT ⟨?_⟩|refine svu ⟨fun u=>?_⟩|(refine svG (fun hg=>?_) (fun hg=>?_)<;>try exact svx)|refine svh (fun hb=>?_) (fun hb=>?_)|refine svb (fun b=>?_) | ((fail_if_success (refine sva ?_)); refine sv3 ?_) | fail))
  refine W.assoc ?_
  (repeat' (first | (refine iS ?_; refine iMu ?_; refine S.mapU ?_) | refine svz ⟨fun b hq=>?_⟩|refine svT ⟨?_⟩|refine svu ⟨fun u=>?_⟩|(refine svG (fun hg=>?_) (fun hg=>?_)<;>try exact svx)|refine svh (fun hb=>?_) (fun hb=>?_)|refine svb (fun b=>?_) | ((fail_if_success (refine sva ?_)); refine sv3 ?_) | fail))
  revert b; intro b13
  obtain ⟨n, hn⟩ : ∃ n, n = at'.toNat % (l.length + 2) := ⟨_, rfl⟩
  have q : Unit → at' % ((l.length : Int) + 2) = (n : Int) := fun _ => by
    rw [hn, Int.natCast_emod, Int.toNat_of_nonneg ha.1]; push_cast; rfl
  have hnl : n < l.length + 2 := by rw [hn]; exact Nat.mod_lt _ (by omega)
  clear hn
  refine W.mid (J := fun s : RT => ⟨206, [(13, .val (.pointer (some ⟨b13, 0, none⟩))), (12, AV.val (.bool (false))), (0, .ro 6 (l.map FW.enc)), (1, AV.val (.int .u8 (at'))), (2, AV.val (.int .u8 (x))), (3, AV.val (.int .u8 (y))), (4, .ro 1 (ints .u8 keys)), (5, AV.val (.bool (gr)))], .box b13 (mapV .u32 vIds (s).k :: mapV .u32 (vI .u32) (s).up :: AV.ro 1 (ints .u32 ((s).o)) :: mapV .u32 vSW (s).V :: mapK (vI .i64) (s).M :: mapV .u32 (vI .i64) (s).N :: AV.val (.int .u32 ((s).fw)) :: AV.val (.int .i64 ((s).fr)) :: AV.val (.int .u32 ((s).ft)) :: AV.ro 9 [] :: AV.val (.int .i64 (((s).p).a.cl)) :: AV.val (.int .u32 (((s).p).a.w)) :: AV.val (.bool (((s).p).a.ow)) :: AV.val (.int .i64 (((s).p).a.mask)) :: AV.val (.bool (((s).p).a.au)) :: AV.val (.bool (((s).p).a.pa)) :: AV.val (.int .i64 (((s).p).a.code)) :: AV.val (.int .u32 (((s).p).a.time)) :: AV.val (.bool (((s).p).g)) :: AV.val (.bool (((s).p).f)) :: AV.val (.bool (((s).p).s)) :: AV.val (.int .i64 (((s).p).held.k)) :: AV.val (.int .i64 (((s).p).held.c)) :: AV.val (.int .i64 (((s).p).held.x)) :: AV.val (.int .i64 (((s).p).held.y)) :: AV.val (.int .u32 (((s).p).held.t)) :: AV.val (.int .i64 (((s).p).held.n)) :: AV.val (.bool (((s).p).hs)) :: AV.ro 6 (((s).p).ws.map IN.enc) :: AV.val (.int .i64 (((s).q).a.cl)) :: AV.val (.int .u32 (((s).q).a.w)) :: AV.val (.bool (((s).q).a.ow)) :: AV.val (.int .i64 (((s).q).a.mask)) :: AV.val (.bool (((s).q).a.au)) :: AV.val (.bool (((s).q).a.pa)) :: AV.val (.int .i64 (((s).q).a.code)) :: AV.val (.int .u32 (((s).q).a.time)) :: AV.val (.bool (((s).q).g)) :: AV.val (.bool (((s).q).f)) :: AV.val (.bool (((s).q).s)) :: AV.val (.int .i64 (((s).q).held.k)) :: AV.val (.int .i64 (((s).q).held.c)) :: AV.val (.int .i64 (((s).q).held.x)) :: AV.val (.int .i64 (((s).q).held.y)) :: AV.val (.int .u32 (((s).q).held.t)) :: AV.val (.int .i64 (((s).q).held.n)) :: AV.val (.bool (((s).q).hs)) :: AV.ro 6 (((s).q).ws.map IN.enc) :: AV.val (.int .i64 ((s).x)) :: AV.val (.int .i64 ((s).y)) :: AV.val (.int .i64 ((s).bt)) :: AV.val (.int .i64 ((s).md)) :: AV.val (.int .i64 ((s).ct)) :: AV.val (.int .u32 ((s).nw)) :: AV.val (.int .u32 ((s).un)) :: []) 52 :: H⟩) (Φ := fun s => FInv false 0 s) ?_ ?_
  · refine W.mid (J := fun _ : Unit => ⟨206, [(15, AV.val (.int .i64 ((n : Int)))), (13, .val (.pointer (some ⟨b13, 0, none⟩))), (12, AV.val (.bool (false))), (0, .ro 6 (l.map FW.enc)), (1, AV.val (.int .u8 (at'))), (2, AV.val (.int .u8 (x))), (3, AV.val (.int .u8 (y))), (4, .ro 1 (ints .u8 keys)), (5, AV.val (.bool (gr)))], .box b13 (mapV .u32 vIds (s).k :: mapV .u32 (vI .u32) (s).up :: AV.ro 1 (ints .u32 ((s).o)) :: mapV .u32 vSW (s).V :: mapK (vI .i64) (s).M :: mapV .u32 (vI .i64) (s).N :: AV.val (.int .u32 ((s).fw)) :: AV.val (.int .i64 ((s).fr)) :: AV.val (.int .u32 ((s).ft)) :: AV.ro 9 [] :: AV.val (.int .i64 (((s).p).a.cl)) :: AV.val (.int .u32 (((s).p).a.w)) :: AV.val (.bool (((s).p).a.ow)) :: AV.val (.int .i64 (((s).p).a.mask)) :: AV.val (.bool (((s).p).a.au)) :: AV.val (.bool (((s).p).a.pa)) :: AV.val (.int .i64 (((s).p).a.code)) :: AV.val (.int .u32 (((s).p).a.time)) :: AV.val (.bool (((s).p).g)) :: AV.val (.bool (((s).p).f)) :: AV.val (.bool (((s).p).s)) :: AV.val (.int .i64 (((s).p).held.k)) :: AV.val (.int .i64 (((s).p).held.c)) :: AV.val (.int .i64 (((s).p).held.x)) :: AV.val (.int .i64 (((s).p).held.y)) :: AV.val (.int .u32 (((s).p).held.t)) :: AV.val (.int .i64 (((s).p).held.n)) :: AV.val (.bool (((s).p).hs)) :: AV.ro 6 (((s).p).ws.map IN.enc) :: AV.val (.int .i64 (((s).q).a.cl)) :: AV.val (.int .u32 (((s).q).a.w)) :: AV.val (.bool (((s).q).a.ow)) :: AV.val (.int .i64 (((s).q).a.mask)) :: AV.val (.bool (((s).q).a.au)) :: AV.val (.bool (((s).q).a.pa)) :: AV.val (.int .i64 (((s).q).a.code)) :: AV.val (.int .u32 (((s).q).a.time)) :: AV.val (.bool (((s).q).g)) :: AV.val (.bool (((s).q).f)) :: AV.val (.bool (((s).q).s)) :: AV.val (.int .i64 (((s).q).held.k)) :: AV.val (.int .i64 (((s).q).held.c)) :: AV.val (.int .i64 (((s).q).held.x)) :: AV.val (.int .i64 (((s).q).held.y)) :: AV.val (.int .u32 (((s).q).held.t)) :: AV.val (.int .i64 (((s).q).held.n)) :: AV.val (.bool (((s).q).hs)) :: AV.ro 6 (((s).q).ws.map IN.enc) :: AV.val (.int .i64 ((s).x)) :: AV.val (.int .i64 ((s).y)) :: AV.val (.int .i64 ((s).bt)) :: AV.val (.int .i64 ((s).md)) :: AV.val (.int .i64 ((s).ct)) :: AV.val (.int .u32 ((s).nw)) :: AV.val (.int .u32 ((s).un)) :: []) 52 :: H⟩) (Φ := fun _ => True) ?_ ?_
    · (repeat' (first|refine svz ⟨fun b hq=>?_⟩|refine svA ⟨?_⟩|refine svu ⟨fun u=>?_⟩|(refine svG (fun hg=>?_) (fun hg=>?_)<;>try exact svx)|refine svh (fun hb=>?_) (fun hb=>?_)|refine svb (fun b=>?_)|fail))
      rw [q ()]
      exact ⟨(), trivial, lee⟩
    rintro - -
    clear q
    have vc := fun id h => viewable_c s.o s.V id h
    have fo := hI.focus
    unfold encW at vc
    clear hI
    by_cases hn : n ≤ l.length
    · by_cases h0 : n = 0
      · have vc1 := fun h => vc 1 h
        have fo1 := fo 1
        unfold RT.fo at fo1
        cases hv : (lkF s.V 1).isSome with
        | true =>
          rw [hv] at vc1
          (repeat' (first|refine svz ⟨fun b hq=>?_⟩|refine svA ⟨?_⟩|refine svu ⟨fun u=>?_⟩|(refine svG (fun hg=>?_) (fun hg=>?_)<;>try exact svx)|refine svh (fun hb=>?_) (fun hb=>?_)|refine svb (fun b=>?_)|fail))
          refine S.call ?_; refine (vc1 _).mono ?_; rintro r h' ⟨rfl, hh⟩; subst hh
          (repeat' (first|refine svz ⟨fun b hq=>?_⟩|refine svA ⟨?_⟩|refine svu ⟨fun u=>?_⟩|(refine svG (fun hg=>?_) (fun hg=>?_)<;>try exact svx)|refine svh (fun hb=>?_) (fun hb=>?_)|refine svb (fun b=>?_)|fail))
          exact ⟨_, fo1, lee⟩
        | false =>
          rw [hv] at vc1
          (repeat' (first|refine svz ⟨fun b hq=>?_⟩|refine svA ⟨?_⟩|refine svu ⟨fun u=>?_⟩|(refine svG (fun hg=>?_) (fun hg=>?_)<;>try exact svx)|refine svh (fun hb=>?_) (fun hb=>?_)|refine svb (fun b=>?_)|fail))
          refine S.call ?_; refine (vc1 _).mono ?_; rintro r h' ⟨rfl, hh⟩; subst hh
          (repeat' (first|refine svz ⟨fun b hq=>?_⟩|refine svA ⟨?_⟩|refine svu ⟨fun u=>?_⟩|(refine svG (fun hg=>?_) (fun hg=>?_)<;>try exact svx)|refine svh (fun hb=>?_) (fun hb=>?_)|refine svb (fun b=>?_)|fail))
          exact fin_r (h' := _) ⟨rfl, rfl⟩
      · have vc1 := fun h => vc (1048576 + (n : Int)) h
        have fo1 := fo (1048576 + (n : Int))
        unfold RT.fo at fo1
        cases hv : (lkF s.V (1048576 + (n : Int))).isSome with
        | true =>
          rw [hv] at vc1
          (repeat' (first|refine svz ⟨fun b hq=>?_⟩|refine svA ⟨?_⟩|refine svu ⟨fun u=>?_⟩|(refine svG (fun hg=>?_) (fun hg=>?_)<;>try exact svx)|refine svh (fun hb=>?_) (fun hb=>?_)|refine svb (fun b=>?_)|fail))
          refine S.call ?_; refine (vc1 _).mono ?_; rintro r h' ⟨rfl, hh⟩; subst hh
          (repeat' (first|refine svz ⟨fun b hq=>?_⟩|refine svA ⟨?_⟩|refine svu ⟨fun u=>?_⟩|(refine svG (fun hg=>?_) (fun hg=>?_)<;>try exact svx)|refine svh (fun hb=>?_) (fun hb=>?_)|refine svb (fun b=>?_)|fail))
          exact ⟨_, fo1, lee⟩
        | false =>
          rw [hv] at vc1
          (repeat' (first|refine svz ⟨fun b hq=>?_⟩|refine svA ⟨?_⟩|refine svu ⟨fun u=>?_⟩|(refine svG (fun hg=>?_) (fun hg=>?_)<;>try exact svx)|refine svh (fun hb=>?_) (fun hb=>?_)|refine svb (fun b=>?_)|fail))
          refine S.call ?_; refine (vc1 _).mono ?_; rintro r h' ⟨rfl, hh⟩; subst hh
          (repeat' (first|refine svz ⟨fun b hq=>?_⟩|refine svA ⟨?_⟩|refine svu ⟨fun u=>?_⟩|(refine svG (fun hg=>?_) (fun hg=>?_)<;>try exact svx)|refine svh (fun hb=>?_) (fun hb=>?_)|refine svb (fun b=>?_)|fail))
          exact fin_r (h' := _) ⟨rfl, rfl⟩
    · have fo1 := fo s.fw
      unfold RT.fo at fo1
      (repeat' (first|refine svz ⟨fun b hq=>?_⟩|refine svA ⟨?_⟩|refine svu ⟨fun u=>?_⟩|(refine svG (fun hg=>?_) (fun hg=>?_)<;>try exact svx)|refine svh (fun hb=>?_) (fun hb=>?_)|refine svb (fun b=>?_)|fail))
      exact ⟨_, fo1, lee⟩
  rintro s hI
  refine W.mid (J := fun s : RT => ⟨206, [(13, .val (.pointer (some ⟨b13, 0, none⟩))), (12, AV.val (.bool (false))), (0, .ro 6 (l.map FW.enc)), (1, AV.val (.int .u8 (at'))), (2, AV.val (.int .u8 (x))), (3, AV.val (.int .u8 (y))), (4, .ro 1 (ints .u8 keys)), (5, AV.val (.bool (gr)))], .box b13 (mapV .u32 vIds (s).k :: mapV .u32 (vI .u32) (s).up :: AV.ro 1 (ints .u32 ((s).o)) :: mapV .u32 vSW (s).V :: mapK (vI .i64) (s).M :: mapV .u32 (vI .i64) (s).N :: AV.val (.int .u32 ((s).fw)) :: AV.val (.int .i64 ((s).fr)) :: AV.val (.int .u32 ((s).ft)) :: AV.ro 9 [] :: AV.val (.int .i64 (((s).p).a.cl)) :: AV.val (.int .u32 (((s).p).a.w)) :: AV.val (.bool (((s).p).a.ow)) :: AV.val (.int .i64 (((s).p).a.mask)) :: AV.val (.bool (((s).p).a.au)) :: AV.val (.bool (((s).p).a.pa)) :: AV.val (.int .i64 (((s).p).a.code)) :: AV.val (.int .u32 (((s).p).a.time)) :: AV.val (.bool (((s).p).g)) :: AV.val (.bool (((s).p).f)) :: AV.val (.bool (((s).p).s)) :: AV.val (.int .i64 (((s).p).held.k)) :: AV.val (.int .i64 (((s).p).held.c)) :: AV.val (.int .i64 (((s).p).held.x)) :: AV.val (.int .i64 (((s).p).held.y)) :: AV.val (.int .u32 (((s).p).held.t)) :: AV.val (.int .i64 (((s).p).held.n)) :: AV.val (.bool (((s).p).hs)) :: AV.ro 6 (((s).p).ws.map IN.enc) :: AV.val (.int .i64 (((s).q).a.cl)) :: AV.val (.int .u32 (((s).q).a.w)) :: AV.val (.bool (((s).q).a.ow)) :: AV.val (.int .i64 (((s).q).a.mask)) :: AV.val (.bool (((s).q).a.au)) :: AV.val (.bool (((s).q).a.pa)) :: AV.val (.int .i64 (((s).q).a.code)) :: AV.val (.int .u32 (((s).q).a.time)) :: AV.val (.bool (((s).q).g)) :: AV.val (.bool (((s).q).f)) :: AV.val (.bool (((s).q).s)) :: AV.val (.int .i64 (((s).q).held.k)) :: AV.val (.int .i64 (((s).q).held.c)) :: AV.val (.int .i64 (((s).q).held.x)) :: AV.val (.int .i64 (((s).q).held.y)) :: AV.val (.int .u32 (((s).q).held.t)) :: AV.val (.int .i64 (((s).q).held.n)) :: AV.val (.bool (((s).q).hs)) :: AV.ro 6 (((s).q).ws.map IN.enc) :: AV.val (.int .i64 ((s).x)) :: AV.val (.int .i64 ((s).y)) :: AV.val (.int .i64 ((s).bt)) :: AV.val (.int .i64 ((s).md)) :: AV.val (.int .i64 ((s).ct)) :: AV.val (.int .u32 ((s).nw)) :: AV.val (.int .u32 ((s).un)) :: []) 52 :: H⟩) (Φ := fun s => FInv gr 0 s) ?_ ?_
  · cases gr with
    | false =>
      (repeat' (first|refine svz ⟨fun b hq=>?_⟩|refine svA ⟨?_⟩|refine svu ⟨fun u=>?_⟩|(refine svG (fun hg=>?_) (fun hg=>?_)<;>try exact svx)|refine svh (fun hb=>?_) (fun hb=>?_)|refine svb (fun b=>?_)|fail))
      exact ⟨s, hI, lee⟩
    | true =>
      have bg := fun h => begin_c s.q ⟨5, 1, false, 1, false, false, 0, 0⟩ false h
      have hN := hI.grab
      clear hI
      unfold DV.begin at bg hN
      unfold RT.setd at hN
      unfold DV.enc AC.enc at bg
      (repeat' (first|refine svz ⟨fun b hq=>?_⟩|refine svA ⟨?_⟩|refine svu ⟨fun u=>?_⟩|(refine svG (fun hg=>?_) (fun hg=>?_)<;>try exact svx)|refine svh (fun hb=>?_) (fun hb=>?_)|refine svb (fun b=>?_)|fail))
      refine S.call ?_; refine (bg _).mono ?_; rintro r h' ⟨rfl, hh⟩; subst hh
      (repeat' (first|refine svz ⟨fun b hq=>?_⟩|refine svA ⟨?_⟩|refine svu ⟨fun u=>?_⟩|(refine svG (fun hg=>?_) (fun hg=>?_)<;>try exact svx)|refine svh (fun hb=>?_) (fun hb=>?_)|refine svb (fun b=>?_)|fail))
      refine S.store_any ?_ (hl := Nat.le_of_ble_eq_true rfl)
      (repeat' (first|refine svz ⟨fun b hq=>?_⟩|refine svA ⟨?_⟩|refine svu ⟨fun u=>?_⟩|(refine svG (fun hg=>?_) (fun hg=>?_)<;>try exact svx)|refine svh (fun hb=>?_) (fun hb=>?_)|refine svb (fun b=>?_)|fail))
      exact ⟨_, hN, lee⟩
  clear hI s
  rintro s hI
  have wc := fun h => way_c hI.ok.tw (by have := hI.ok.ul; omega) s.fw s.fr s.ft s.un h
  unfold encF encT at wc
  (repeat' (first|refine svz ⟨fun b hq=>?_⟩|refine svA ⟨?_⟩|refine svu ⟨fun u=>?_⟩|(refine svG (fun hg=>?_) (fun hg=>?_)<;>try exact svx)|refine svh (fun hb=>?_) (fun hb=>?_)|refine svb (fun b=>?_)|fail))
  refine S.call ?_; refine (wc _).mono ?_; rintro r h' ⟨rfl, hh⟩; subst hh
  (repeat' (first|refine svz ⟨fun b hq=>?_⟩|refine svA ⟨?_⟩|refine svu ⟨fun u=>?_⟩|(refine svG (fun hg=>?_) (fun hg=>?_)<;>try exact svx)|refine svh (fun hb=>?_) (fun hb=>?_)|refine svb (fun b=>?_)|fail))
  clear wc
  refine W.loop (J := fun z : Nat × RT => ⟨206, [(16, AV.ro 1 (ints .u32 (wayF z.2.up z.2.fw z.2.un))), (87, AV.val (.int .i64 ((z.1 : Nat)))), (86, AV.val (.int .i64 ((keys.length : Int)))), (85, .ro 1 (ints .u8 keys)), (13, .val (.pointer (some ⟨b13, 0, none⟩))), (5, AV.val (.bool (gr)))], .box b13 (mapV .u32 vIds (z.2).k :: mapV .u32 (vI .u32) (z.2).up :: AV.ro 1 (ints .u32 ((z.2).o)) :: mapV .u32 vSW (z.2).V :: mapK (vI .i64) (z.2).M :: mapV .u32 (vI .i64) (z.2).N :: AV.val (.int .u32 ((z.2).fw)) :: AV.val (.int .i64 ((z.2).fr)) :: AV.val (.int .u32 ((z.2).ft)) :: AV.ro 9 [] :: AV.val (.int .i64 (((z.2).p).a.cl)) :: AV.val (.int .u32 (((z.2).p).a.w)) :: AV.val (.bool (((z.2).p).a.ow)) :: AV.val (.int .i64 (((z.2).p).a.mask)) :: AV.val (.bool (((z.2).p).a.au)) :: AV.val (.bool (((z.2).p).a.pa)) :: AV.val (.int .i64 (((z.2).p).a.code)) :: AV.val (.int .u32 (((z.2).p).a.time)) :: AV.val (.bool (((z.2).p).g)) :: AV.val (.bool (((z.2).p).f)) :: AV.val (.bool (((z.2).p).s)) :: AV.val (.int .i64 (((z.2).p).held.k)) :: AV.val (.int .i64 (((z.2).p).held.c)) :: AV.val (.int .i64 (((z.2).p).held.x)) :: AV.val (.int .i64 (((z.2).p).held.y)) :: AV.val (.int .u32 (((z.2).p).held.t)) :: AV.val (.int .i64 (((z.2).p).held.n)) :: AV.val (.bool (((z.2).p).hs)) :: AV.ro 6 (((z.2).p).ws.map IN.enc) :: AV.val (.int .i64 (((z.2).q).a.cl)) :: AV.val (.int .u32 (((z.2).q).a.w)) :: AV.val (.bool (((z.2).q).a.ow)) :: AV.val (.int .i64 (((z.2).q).a.mask)) :: AV.val (.bool (((z.2).q).a.au)) :: AV.val (.bool (((z.2).q).a.pa)) :: AV.val (.int .i64 (((z.2).q).a.code)) :: AV.val (.int .u32 (((z.2).q).a.time)) :: AV.val (.bool (((z.2).q).g)) :: AV.val (.bool (((z.2).q).f)) :: AV.val (.bool (((z.2).q).s)) :: AV.val (.int .i64 (((z.2).q).held.k)) :: AV.val (.int .i64 (((z.2).q).held.c)) :: AV.val (.int .i64 (((z.2).q).held.x)) :: AV.val (.int .i64 (((z.2).q).held.y)) :: AV.val (.int .u32 (((z.2).q).held.t)) :: AV.val (.int .i64 (((z.2).q).held.n)) :: AV.val (.bool (((z.2).q).hs)) :: AV.ro 6 (((z.2).q).ws.map IN.enc) :: AV.val (.int .i64 ((z.2).x)) :: AV.val (.int .i64 ((z.2).y)) :: AV.val (.int .i64 ((z.2).bt)) :: AV.val (.int .i64 ((z.2).md)) :: AV.val (.int .i64 ((z.2).ct)) :: AV.val (.int .u32 ((z.2).nw)) :: AV.val (.int .u32 ((z.2).un)) :: []) 52 :: H⟩) (Φ := fun z => z.1 ≤ keys.length ∧ FInv gr z.1 z.2) (μ := fun z => keys.length - z.1) (0, s) lee ⟨Nat.zero_le _, hI⟩ ?_
  clear hI s
  rintro ⟨i, s⟩ ⟨hi, hI⟩
  dsimp only at hi hI ⊢
  rcases Nat.lt_or_ge i keys.length with hlt | hge
  rotate_left
  · (repeat' (first|refine svz ⟨fun b hq=>?_⟩|refine svA ⟨?_⟩|refine svu ⟨fun u=>?_⟩|(refine svG (fun hg=>?_) (fun hg=>?_)<;>try exact svx)|refine svh (fun hb=>?_) (fun hb=>?_)|refine svb (fun b=>?_)|fail))
    exact fin_r (h' := _) ⟨rfl, rfl⟩
  obtain ⟨k, hkk2⟩ : ∃ k, keys[i]? = some k := ⟨_, List.getElem?_eq_getElem hlt⟩
  have hkb := hk k (List.mem_of_getElem? hkk2)
  have kc := fun h => key_c s ⟨1, k % 200 + 1, 0, 0, (i : Int), 0⟩ h hI.ok rfl (by dsimp only; omega) (by dsimp only; omega) (by have := hI.nw; omega) (by have := hI.ct; omega) hI.pw hI.qw hI.qf hI.qs hI.qo hI.bd.1 (by have := hI.bd.2; omega)
  have hN := fun bt md => hI.next bt md
  have hlw : (wayF s.up s.fw s.un).length ≤ 1000000 := by have := wayF_len hI.ok.tw s.fw s.un; have := hI.ok.ul; omega
  cases gr with
  | true =>
    have hnm : namesF s false 1 = (1, [5]) := by
      rcases hI.names with ⟨_, e⟩ | ⟨q, _⟩
      · exact e
      · cases q
    have eT : ∀ ch st sx sy, (tellF s ⟨1, k % 200 + 1, 0, 0, (i : Int), 0⟩ ch st sx sy).map SD.enc = [.agg [AV.val (.int .i64 (5)), AV.val (.int .i64 (2)), AV.val (.int .i64 (1)), AV.val (.int .i64 (0)), .ro 1 (ints .i64 ([1, ch, k % 200 + 1, st, sx, sy, s.x, s.y, (i : Int)])), .val (.string ⟨#[]⟩), .val (.slice none 0 0)]] := fun ch st sx sy => by
      unfold tellF; rw [hnm]; rfl
    simp only [eT] at kc
    clear eT hnm hI hk
    unfold RT.enc at kc
    rw [IN.enc_eq] at kc
    dsimp only at kc
    (repeat' (first|refine svz ⟨fun b hq=>?_⟩|refine svA ⟨?_⟩|refine svu ⟨fun u=>?_⟩|(refine svG (fun hg=>?_) (fun hg=>?_)<;>try exact svx)|refine svh (fun hb=>?_) (fun hb=>?_)|refine svb (fun b=>?_)|fail))
    refine S.call ?_
    refine (kc _).mono ?_
    rintro r h' ⟨⟨bt, md, ch, st, sx, sy, rfl⟩, hh⟩
    subst hh
    have hN := hN bt md
    rw [show wayF s.up s.fw s.un = wayF ((s.cn (s.ct + 1) (max s.nw (i : Int))).bm bt md).up ((s.cn (s.ct + 1) (max s.nw (i : Int))).bm bt md).fw ((s.cn (s.ct + 1) (max s.nw (i : Int))).bm bt md).un from rfl]
    clear kc
    generalize (s.cn (s.ct + 1) (max s.nw (i : Int))).bm bt md = sN at *
    (repeat' (first|refine svz ⟨fun b hq=>?_⟩|refine svA ⟨?_⟩|refine svu ⟨fun u=>?_⟩|(refine svG (fun hg=>?_) (fun hg=>?_)<;>try exact svx)|refine svh (fun hb=>?_) (fun hb=>?_)|refine svb (fun b=>?_)|fail))
    exact ⟨(i + 1, sN), ⟨hlt, hN⟩, lee, by dsimp only; omega⟩
  | false =>
    obtain ⟨w, cl, hnm, hpw, hc1, hc8, hwb, hcase⟩ := hI.who
    clear hI hk
    have who := fun h => who_c s.M s.N w 1 h
    unfold encC at who
    unfold RT.enc at kc
    rw [IN.enc_eq] at kc
    dsimp only at kc
    (repeat' (first|refine svz ⟨fun b hq=>?_⟩|refine svA ⟨?_⟩|refine svu ⟨fun u=>?_⟩|(refine svG (fun hg=>?_) (fun hg=>?_)<;>try exact svx)|refine svh (fun hb=>?_) (fun hb=>?_)|refine svb (fun b=>?_)|fail))
    refine S.call ?_
    refine (kc _).mono ?_
    rintro r h' ⟨⟨bt, md, ch, st, sx, sy, rfl⟩, hh⟩
    subst hh
    have hN := hN bt md
    have hwy : wayF ((s.cn (s.ct + 1) (max s.nw (i : Int))).bm bt md).up ((s.cn (s.ct + 1) (max s.nw (i : Int))).bm bt md).fw ((s.cn (s.ct + 1) (max s.nw (i : Int))).bm bt md).un = wayF s.up s.fw s.un := rfl
    generalize hWL : wayF s.up s.fw s.un = WL at *
    clear kc hWL
    generalize (s.cn (s.ct + 1) (max s.nw (i : Int))).bm bt md = sN at *
    obtain ⟨NL, hNL, hn9, hn0⟩ : ∃ NL : List Int, NL = [w, ch, k % 200 + 1, st, sx, sy, s.x, s.y, (i : Int)] ∧ NL.length = 9 ∧ NL[0]? = some w := ⟨_, rfl, rfl, rfl⟩
    have eT : (tellF s ⟨1, k % 200 + 1, 0, 0, (i : Int), 0⟩ ch st sx sy).map SD.enc = cl.map fun c => .agg [AV.val (.int .i64 (c)), AV.val (.int .i64 (2)), AV.val (.int .i64 (1)), AV.val (.int .i64 (0)), .ro 1 (ints .i64 (NL)), .val (.string ⟨#[]⟩), .val (.slice none 0 0)] := by
      unfold tellF
      rw [hnm, hNL, List.map_map]; rfl
    rw [eT]
    clear eT hNL hnm
    obtain ⟨TT, hTT, hTl, hTa⟩ : ∃ TT : List AV, TT = (cl.map fun c => .agg [AV.val (.int .i64 (c)), AV.val (.int .i64 (2)), AV.val (.int .i64 (1)), AV.val (.int .i64 (0)), .ro 1 (ints .i64 (NL)), .val (.string ⟨#[]⟩), .val (.slice none 0 0)]) ∧ TT.length = cl.length ∧ ∀ (j : Nat) c, cl[j]? = some c → TT[j]? = some (.agg [AV.val (.int .i64 (c)), AV.val (.int .i64 (2)), AV.val (.int .i64 (1)), AV.val (.int .i64 (0)), .ro 1 (ints .i64 (NL)), .val (.string ⟨#[]⟩), .val (.slice none 0 0)]) := ⟨_, rfl, List.length_map _, fun j c h => by rw [List.getElem?_map, h]; rfl⟩
    rw [← hTT]
    clear hTT
    (repeat' (first|refine svz ⟨fun b hq=>?_⟩|refine svA ⟨?_⟩|refine svu ⟨fun u=>?_⟩|(refine svG (fun hg=>?_) (fun hg=>?_)<;>try exact svx)|refine svh (fun hb=>?_) (fun hb=>?_)|refine svb (fun b=>?_)|fail))
    revert b; intro b19
    refine W.loop (J := fun z : Nat × Int × Int => ⟨206, [(126, AV.val (.int .i64 ((z.1 : Nat)))), (125, AV.val (.int .i64 ((TT.length : Nat)))), (124, .ro 7 TT), (22, AV.val (.int .u32 (z.2.1))), (23, AV.val (.int .i64 (z.2.2))), (20, .ro 7 TT), (19, .val (.pointer (some ⟨b19, 0, none⟩))), (16, AV.ro 1 (ints .u32 (WL))), (87, AV.val (.int .i64 ((i : Nat)))), (86, AV.val (.int .i64 ((keys.length : Int)))), (85, .ro 1 (ints .u8 keys)), (13, .val (.pointer (some ⟨b13, 0, none⟩))), (5, AV.val (.bool (false)))], .box b19 (mapV .u32 vIds (sN).k :: mapV .u32 (vI .u32) (sN).up :: AV.ro 1 (ints .u32 ((sN).o)) :: mapV .u32 vSW (sN).V :: mapK (vI .i64) (sN).M :: mapV .u32 (vI .i64) (sN).N :: AV.val (.int .u32 ((sN).fw)) :: AV.val (.int .i64 ((sN).fr)) :: AV.val (.int .u32 ((sN).ft)) :: AV.ro 9 [] :: AV.val (.int .i64 (((sN).p).a.cl)) :: AV.val (.int .u32 (((sN).p).a.w)) :: AV.val (.bool (((sN).p).a.ow)) :: AV.val (.int .i64 (((sN).p).a.mask)) :: AV.val (.bool (((sN).p).a.au)) :: AV.val (.bool (((sN).p).a.pa)) :: AV.val (.int .i64 (((sN).p).a.code)) :: AV.val (.int .u32 (((sN).p).a.time)) :: AV.val (.bool (((sN).p).g)) :: AV.val (.bool (((sN).p).f)) :: AV.val (.bool (((sN).p).s)) :: AV.val (.int .i64 (((sN).p).held.k)) :: AV.val (.int .i64 (((sN).p).held.c)) :: AV.val (.int .i64 (((sN).p).held.x)) :: AV.val (.int .i64 (((sN).p).held.y)) :: AV.val (.int .u32 (((sN).p).held.t)) :: AV.val (.int .i64 (((sN).p).held.n)) :: AV.val (.bool (((sN).p).hs)) :: AV.ro 6 (((sN).p).ws.map IN.enc) :: AV.val (.int .i64 (((sN).q).a.cl)) :: AV.val (.int .u32 (((sN).q).a.w)) :: AV.val (.bool (((sN).q).a.ow)) :: AV.val (.int .i64 (((sN).q).a.mask)) :: AV.val (.bool (((sN).q).a.au)) :: AV.val (.bool (((sN).q).a.pa)) :: AV.val (.int .i64 (((sN).q).a.code)) :: AV.val (.int .u32 (((sN).q).a.time)) :: AV.val (.bool (((sN).q).g)) :: AV.val (.bool (((sN).q).f)) :: AV.val (.bool (((sN).q).s)) :: AV.val (.int .i64 (((sN).q).held.k)) :: AV.val (.int .i64 (((sN).q).held.c)) :: AV.val (.int .i64 (((sN).q).held.x)) :: AV.val (.int .i64 (((sN).q).held.y)) :: AV.val (.int .u32 (((sN).q).held.t)) :: AV.val (.int .i64 (((sN).q).held.n)) :: AV.val (.bool (((sN).q).hs)) :: AV.ro 6 (((sN).q).ws.map IN.enc) :: AV.val (.int .i64 ((sN).x)) :: AV.val (.int .i64 ((sN).y)) :: AV.val (.int .i64 ((sN).bt)) :: AV.val (.int .i64 ((sN).md)) :: AV.val (.int .i64 ((sN).ct)) :: AV.val (.int .u32 ((sN).nw)) :: AV.val (.int .u32 ((sN).un)) :: []) 52 :: .box b13 (mapV .u32 vIds (s).k :: mapV .u32 (vI .u32) (s).up :: AV.ro 1 (ints .u32 ((s).o)) :: mapV .u32 vSW (s).V :: mapK (vI .i64) (s).M :: mapV .u32 (vI .i64) (s).N :: AV.val (.int .u32 ((s).fw)) :: AV.val (.int .i64 ((s).fr)) :: AV.val (.int .u32 ((s).ft)) :: AV.ro 9 [] :: AV.val (.int .i64 (((s).p).a.cl)) :: AV.val (.int .u32 (((s).p).a.w)) :: AV.val (.bool (((s).p).a.ow)) :: AV.val (.int .i64 (((s).p).a.mask)) :: AV.val (.bool (((s).p).a.au)) :: AV.val (.bool (((s).p).a.pa)) :: AV.val (.int .i64 (((s).p).a.code)) :: AV.val (.int .u32 (((s).p).a.time)) :: AV.val (.bool (((s).p).g)) :: AV.val (.bool (((s).p).f)) :: AV.val (.bool (((s).p).s)) :: AV.val (.int .i64 (((s).p).held.k)) :: AV.val (.int .i64 (((s).p).held.c)) :: AV.val (.int .i64 (((s).p).held.x)) :: AV.val (.int .i64 (((s).p).held.y)) :: AV.val (.int .u32 (((s).p).held.t)) :: AV.val (.int .i64 (((s).p).held.n)) :: AV.val (.bool (((s).p).hs)) :: AV.ro 6 (((s).p).ws.map IN.enc) :: AV.val (.int .i64 (((s).q).a.cl)) :: AV.val (.int .u32 (((s).q).a.w)) :: AV.val (.bool (((s).q).a.ow)) :: AV.val (.int .i64 (((s).q).a.mask)) :: AV.val (.bool (((s).q).a.au)) :: AV.val (.bool (((s).q).a.pa)) :: AV.val (.int .i64 (((s).q).a.code)) :: AV.val (.int .u32 (((s).q).a.time)) :: AV.val (.bool (((s).q).g)) :: AV.val (.bool (((s).q).f)) :: AV.val (.bool (((s).q).s)) :: AV.val (.int .i64 (((s).q).held.k)) :: AV.val (.int .i64 (((s).q).held.c)) :: AV.val (.int .i64 (((s).q).held.x)) :: AV.val (.int .i64 (((s).q).held.y)) :: AV.val (.int .u32 (((s).q).held.t)) :: AV.val (.int .i64 (((s).q).held.n)) :: AV.val (.bool (((s).q).hs)) :: AV.ro 6 (((s).q).ws.map IN.enc) :: AV.val (.int .i64 ((s).x)) :: AV.val (.int .i64 ((s).y)) :: AV.val (.int .i64 ((s).bt)) :: AV.val (.int .i64 ((s).md)) :: AV.val (.int .i64 ((s).ct)) :: AV.val (.int .u32 ((s).nw)) :: AV.val (.int .u32 ((s).un)) :: []) 52 :: H⟩)
      (Φ := fun z => z.1 ≤ TT.length ∧ (z.1 = 0 → z.2 = (0, 0)) ∧ (0 < z.1 → z.2.1 = w) ∧ ∀ c ∈ cl.drop z.1, z.2.2 < c) (μ := fun z => TT.length - z.1) (0, 0, 0) lee ⟨Nat.zero_le _, fun _ => rfl, fun q => absurd q (by decide), fun c hc => by have := hc1 c hc; dsimp only; omega⟩ ?_
    rintro ⟨j, wh, la⟩ ⟨hj, hz, hw, hla⟩
    dsimp only at hj hz hw hla ⊢
    rcases Nat.lt_or_ge j TT.length with hjt | hjg
    · obtain ⟨c, hcj⟩ : ∃ c, cl[j]? = some c := ⟨_, List.getElem?_eq_getElem (by omega)⟩
      have hd : cl.drop j = c :: cl.drop (j + 1) := by
        rw [List.drop_eq_getElem_cons (by omega)]; congr 1; rw [List.getElem?_eq_getElem (by omega)] at hcj; injection hcj
      have hlc : la < c := hla c (by rw [hd]; exact List.mem_cons_self ..)
      have hnx : ∀ c' ∈ cl.drop (j + 1), c < c' := by
        have := hpw.sublist (List.drop_sublist j cl)
        rw [hd, List.pairwise_cons] at this
        exact this.1
      have hat := hTa j c hcj
      have hw1 : 1 ≤ w := by
        rcases hcase with ⟨e, _⟩ | ⟨_, _, _, h1, _⟩
        · rw [e] at hcj; simp at hcj
        · exact h1
      clear hla hd hTa hpw hc1 hcj who hcase
      rcases Nat.eq_zero_or_pos j with h0 | h0
      · have e := hz h0
        injection e with e1 e2
        subst e1 e2
        clear hz hw
        (repeat' (first|refine svz ⟨fun b hq=>?_⟩|refine svA ⟨?_⟩|refine svu ⟨fun u=>?_⟩|(refine svG (fun hg=>?_) (fun hg=>?_)<;>try exact svx)|refine svh (fun hb=>?_) (fun hb=>?_)|refine svb (fun b=>?_)|fail))
        exact ⟨(j + 1, w, c), ⟨hjt, fun q => absurd q (Nat.succ_ne_zero _), fun _ => rfl, hnx⟩, lee, by dsimp only; omega⟩
      · have e := hw h0
        subst e
        clear hz hw
        (repeat' (first|refine svz ⟨fun b hq=>?_⟩|refine svA ⟨?_⟩|refine svu ⟨fun u=>?_⟩|(refine svG (fun hg=>?_) (fun hg=>?_)<;>try exact svx)|refine svh (fun hb=>?_) (fun hb=>?_)|refine svb (fun b=>?_)|fail))
        exact ⟨(j + 1, wh, c), ⟨hjt, fun q => absurd q (Nat.succ_ne_zero _), fun _ => rfl, hnx⟩, lee, by dsimp only; omega⟩
    · have hwh : wh = w := by
        rcases hcase with ⟨e1, e2⟩ | ⟨e1, _⟩
        · have h0 : TT.length = 0 := by rw [hTl, e1]; rfl
          have := hz (by omega)
          injection this with q1 q2
          rw [q1, e2]
        · exact hw (by have := List.length_pos_iff.2 e1; omega)
      subst hwh
      clear hz hw hla hTa hpw hc1 hn9 hn0
      (repeat' (first|refine svz ⟨fun b hq=>?_⟩|refine svA ⟨?_⟩|refine svu ⟨fun u=>?_⟩|(refine svG (fun hg=>?_) (fun hg=>?_)<;>try exact svx)|refine svh (fun hb=>?_) (fun hb=>?_)|refine svb (fun b=>?_)|fail))
      refine W.loop (J := fun z : Nat × Bool => ⟨206, [(166, AV.val (.int .i64 ((z.1 : Nat)))), (165, AV.val (.int .i64 ((WL.length : Nat)))), (164, AV.ro 1 (ints .u32 (WL))), (27, AV.val (.bool (z.2))), (22, AV.val (.int .u32 (wh))), (20, .ro 7 TT), (19, .val (.pointer (some ⟨b19, 0, none⟩))), (16, AV.ro 1 (ints .u32 (WL))), (87, AV.val (.int .i64 ((i : Nat)))), (86, AV.val (.int .i64 ((keys.length : Int)))), (85, .ro 1 (ints .u8 keys)), (13, .val (.pointer (some ⟨b13, 0, none⟩))), (5, AV.val (.bool (false)))], .box b19 (mapV .u32 vIds (sN).k :: mapV .u32 (vI .u32) (sN).up :: AV.ro 1 (ints .u32 ((sN).o)) :: mapV .u32 vSW (sN).V :: mapK (vI .i64) (sN).M :: mapV .u32 (vI .i64) (sN).N :: AV.val (.int .u32 ((sN).fw)) :: AV.val (.int .i64 ((sN).fr)) :: AV.val (.int .u32 ((sN).ft)) :: AV.ro 9 [] :: AV.val (.int .i64 (((sN).p).a.cl)) :: AV.val (.int .u32 (((sN).p).a.w)) :: AV.val (.bool (((sN).p).a.ow)) :: AV.val (.int .i64 (((sN).p).a.mask)) :: AV.val (.bool (((sN).p).a.au)) :: AV.val (.bool (((sN).p).a.pa)) :: AV.val (.int .i64 (((sN).p).a.code)) :: AV.val (.int .u32 (((sN).p).a.time)) :: AV.val (.bool (((sN).p).g)) :: AV.val (.bool (((sN).p).f)) :: AV.val (.bool (((sN).p).s)) :: AV.val (.int .i64 (((sN).p).held.k)) :: AV.val (.int .i64 (((sN).p).held.c)) :: AV.val (.int .i64 (((sN).p).held.x)) :: AV.val (.int .i64 (((sN).p).held.y)) :: AV.val (.int .u32 (((sN).p).held.t)) :: AV.val (.int .i64 (((sN).p).held.n)) :: AV.val (.bool (((sN).p).hs)) :: AV.ro 6 (((sN).p).ws.map IN.enc) :: AV.val (.int .i64 (((sN).q).a.cl)) :: AV.val (.int .u32 (((sN).q).a.w)) :: AV.val (.bool (((sN).q).a.ow)) :: AV.val (.int .i64 (((sN).q).a.mask)) :: AV.val (.bool (((sN).q).a.au)) :: AV.val (.bool (((sN).q).a.pa)) :: AV.val (.int .i64 (((sN).q).a.code)) :: AV.val (.int .u32 (((sN).q).a.time)) :: AV.val (.bool (((sN).q).g)) :: AV.val (.bool (((sN).q).f)) :: AV.val (.bool (((sN).q).s)) :: AV.val (.int .i64 (((sN).q).held.k)) :: AV.val (.int .i64 (((sN).q).held.c)) :: AV.val (.int .i64 (((sN).q).held.x)) :: AV.val (.int .i64 (((sN).q).held.y)) :: AV.val (.int .u32 (((sN).q).held.t)) :: AV.val (.int .i64 (((sN).q).held.n)) :: AV.val (.bool (((sN).q).hs)) :: AV.ro 6 (((sN).q).ws.map IN.enc) :: AV.val (.int .i64 ((sN).x)) :: AV.val (.int .i64 ((sN).y)) :: AV.val (.int .i64 ((sN).bt)) :: AV.val (.int .i64 ((sN).md)) :: AV.val (.int .i64 ((sN).ct)) :: AV.val (.int .u32 ((sN).nw)) :: AV.val (.int .u32 ((sN).un)) :: []) 52 :: .box b13 (mapV .u32 vIds (s).k :: mapV .u32 (vI .u32) (s).up :: AV.ro 1 (ints .u32 ((s).o)) :: mapV .u32 vSW (s).V :: mapK (vI .i64) (s).M :: mapV .u32 (vI .i64) (s).N :: AV.val (.int .u32 ((s).fw)) :: AV.val (.int .i64 ((s).fr)) :: AV.val (.int .u32 ((s).ft)) :: AV.ro 9 [] :: AV.val (.int .i64 (((s).p).a.cl)) :: AV.val (.int .u32 (((s).p).a.w)) :: AV.val (.bool (((s).p).a.ow)) :: AV.val (.int .i64 (((s).p).a.mask)) :: AV.val (.bool (((s).p).a.au)) :: AV.val (.bool (((s).p).a.pa)) :: AV.val (.int .i64 (((s).p).a.code)) :: AV.val (.int .u32 (((s).p).a.time)) :: AV.val (.bool (((s).p).g)) :: AV.val (.bool (((s).p).f)) :: AV.val (.bool (((s).p).s)) :: AV.val (.int .i64 (((s).p).held.k)) :: AV.val (.int .i64 (((s).p).held.c)) :: AV.val (.int .i64 (((s).p).held.x)) :: AV.val (.int .i64 (((s).p).held.y)) :: AV.val (.int .u32 (((s).p).held.t)) :: AV.val (.int .i64 (((s).p).held.n)) :: AV.val (.bool (((s).p).hs)) :: AV.ro 6 (((s).p).ws.map IN.enc) :: AV.val (.int .i64 (((s).q).a.cl)) :: AV.val (.int .u32 (((s).q).a.w)) :: AV.val (.bool (((s).q).a.ow)) :: AV.val (.int .i64 (((s).q).a.mask)) :: AV.val (.bool (((s).q).a.au)) :: AV.val (.bool (((s).q).a.pa)) :: AV.val (.int .i64 (((s).q).a.code)) :: AV.val (.int .u32 (((s).q).a.time)) :: AV.val (.bool (((s).q).g)) :: AV.val (.bool (((s).q).f)) :: AV.val (.bool (((s).q).s)) :: AV.val (.int .i64 (((s).q).held.k)) :: AV.val (.int .i64 (((s).q).held.c)) :: AV.val (.int .i64 (((s).q).held.x)) :: AV.val (.int .i64 (((s).q).held.y)) :: AV.val (.int .u32 (((s).q).held.t)) :: AV.val (.int .i64 (((s).q).held.n)) :: AV.val (.bool (((s).q).hs)) :: AV.ro 6 (((s).q).ws.map IN.enc) :: AV.val (.int .i64 ((s).x)) :: AV.val (.int .i64 ((s).y)) :: AV.val (.int .i64 ((s).bt)) :: AV.val (.int .i64 ((s).md)) :: AV.val (.int .i64 ((s).ct)) :: AV.val (.int .u32 ((s).nw)) :: AV.val (.int .u32 ((s).un)) :: []) 52 :: H⟩)
        (Φ := fun z => z.1 ≤ WL.length ∧ z.2 = decide (wh ∈ WL.take z.1)) (μ := fun z => WL.length - z.1) (0, false) lee ⟨Nat.zero_le _, by simp⟩ ?_
      rintro ⟨m, on⟩ ⟨hm, hon⟩
      dsimp only at hm hon ⊢
      rcases Nat.lt_or_ge m WL.length with hml | hmg
      · obtain ⟨x0, hx0⟩ : ∃ x, WL[m]? = some x := ⟨_, List.getElem?_eq_getElem hml⟩
        have hst : decide (wh ∈ WL.take (m + 1)) = (decide (wh ∈ WL.take m) || decide (x0 = wh)) := by
          rw [List.take_add_one, hx0, ← Bool.decide_or]
          refine decide_eq_decide.2 ?_
          simp [eq_comm]
        clear hcase who
        cases on with
        | true =>
          rw [← hon, Bool.true_or] at hst
          clear hon
          (repeat' (first|refine svz ⟨fun b hq=>?_⟩|refine svA ⟨?_⟩|refine svu ⟨fun u=>?_⟩|(refine svG (fun hg=>?_) (fun hg=>?_)<;>try exact svx)|refine svh (fun hb=>?_) (fun hb=>?_)|refine svb (fun b=>?_)|fail))
          exact ⟨(m + 1, true), ⟨hml, hst.symm⟩, lee, by dsimp only; omega⟩
        | false =>
          rw [← hon, Bool.false_or] at hst
          clear hon
          (repeat' (first|refine svz ⟨fun b hq=>?_⟩|refine svA ⟨?_⟩|refine svu ⟨fun u=>?_⟩|(refine svG (fun hg=>?_) (fun hg=>?_)<;>try exact svx)|refine svh (fun hb=>?_) (fun hb=>?_)|refine svb (fun b=>?_)|fail))
          exact ⟨(m + 1, decide (x0 = wh)), ⟨hml, hst.symm⟩, lee, by dsimp only; omega⟩
      · rw [List.take_of_length_le hmg] at hon
        rcases hcase with ⟨e1, e2⟩ | ⟨e1, e2, e3, e4, e5⟩
        · rw [e1] at hTl
          rw [List.length_nil] at hTl
          clear hon who
          (repeat' (first|refine svz ⟨fun b hq=>?_⟩|refine svA ⟨?_⟩|refine svu ⟨fun u=>?_⟩|(refine svG (fun hg=>?_) (fun hg=>?_)<;>try exact svx)|refine svh (fun hb=>?_) (fun hb=>?_)|refine svb (fun b=>?_)|fail))
          all_goals exact ⟨(i + 1, sN), ⟨hlt, hN⟩, by dsimp only; rw [hwy]; exact lee, by dsimp only; omega⟩
        · rw [decide_eq_true e2] at hon
          subst hon
          rw [e3] at hTl
          clear e2 e1 e3
          (repeat' (first|refine svz ⟨fun b hq=>?_⟩|refine svA ⟨?_⟩|refine svu ⟨fun u=>?_⟩|(refine svG (fun hg=>?_) (fun hg=>?_)<;>try exact svx)|refine svh (fun hb=>?_) (fun hb=>?_)|refine svb (fun b=>?_)|fail))
          refine S.call ?_; refine (who _).mono ?_; rintro r h' ⟨rfl, hh⟩; subst hh
          (repeat' (first|refine svz ⟨fun b hq=>?_⟩|refine svA ⟨?_⟩|refine svu ⟨fun u=>?_⟩|(refine svG (fun hg=>?_) (fun hg=>?_)<;>try exact svx)|refine svh (fun hb=>?_) (fun hb=>?_)|refine svb (fun b=>?_)|fail))
          all_goals exact ⟨(i + 1, sN), ⟨hlt, hN⟩, by dsimp only; rw [hwy]; exact lee, by dsimp only; omega⟩
end Go.Proofs.YtbknacpdcdkjiaaGreat
