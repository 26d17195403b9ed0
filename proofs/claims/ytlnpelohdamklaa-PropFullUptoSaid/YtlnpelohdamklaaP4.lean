import Derived.Test.YtlnpelohdamklaaP3
import Derived.Test.YtlnpelohdamklaaT1
namespace Go.Proofs.Ytlnpelohdamklaa
open Go Go.VM
attribute [local irreducible] PurV Pur Step RL W D ACalls Then InBlock Fini
set_option linter.unusedVariables false
set_option linter.unusedSimpArgs false
set_option maxHeartbeats 20000000
def rlst (ps : List PR) : AV := .ro 4 (ps.map PR.enc)
theorem rjoin_c (a b : List Int) (h : Heap) (ha : a.length ≤ 1000000) (hb : b.length ≤ 1000000) : ACalls Try.prog 11 [.ro 1 (ints .i64 a), .ro 1 (ints .i64 b)] h (fun r h' => r = .ro 1 (ints .i64 (a ++ b)) ∧ h' = h) :=
  fz (g := id) (g' := id) (fun v => .hit) (refJoin a b h ha hb)
def rmostF (f : Int) : Int := if f = 8 then 255 else if f = 16 then 65535 else if f = 32 then 4294967295 else 0
set_option maxRecDepth 100000 in
theorem rmost_c (f : Int) (h : Heap) : ACalls Try.prog 37 [.val (.int .i64 f)] h (fun r h' => r = .val (.int .i64 (rmostF f)) ∧ h' = h) := by
  refine ACalls.intro Try.func37 rfl Try.ntmps37 Try.results37 (Nat.le_of_ble_eq_true rfl) ?_
  (repeat' (first | (refine iR ?_; first | refine RL.cons rfl ?_ | refine RL.nil ?_ | (refine RL.gt rfl rfl rfl rfl rfl (fun hg => ?_) (fun hg => ?_) <;> try (exfalso; omega)) | (refine RL.gf rfl rfl rfl rfl rfl (fun hg => ?_) (fun hg => ?_) <;> try (exfalso; omega)) | refine RL.ex rfl rfl rfl rfl rfl rfl ?_ | refine RL.sk rfl rfl rfl rfl rfl rfl ?_) | (refine iS ?_; first | (refine iZ ?_; refine S.nilq (fun b hq => ?_)) | (refine iL ?_; refine S.L ?_) | (refine iC ?_; first | refine S.append1 (fun u => ?_) | refine S.append (fun u => ?_) | refine S.append_nil (fun u => ?_)) | (refine iT ?_; first | refine S.store_one ?_ | refine S.store_whole ?_ | refine S.store_elem ?_ | refine S.store_field ?_) | (refine iA ?_; refine S.alloc (fun b => ?_)) | (refine iX ?_; refine S.box (fun b => ?_)) | (refine iN ?_; first | refine S.build1 (fun u => ?_) | refine S.build2 (fun u => ?_) | refine S.build3 (fun u => ?_) | refine S.build0 (fun u => ?_)) | (refine iK ?_; refine S.make (fun u => ?_)) | (refine iY ?_; refine S.copy ?_) | refine S.V ?_) | (refine iW ?_; first | refine W.rs ?_ | refine W.ss ?_ | refine W.assoc ?_ | (refine W.cd rfl (fun hc => ?_) (fun hc => ?_) <;> try (exfalso; omega)) | refine W.region ?_ | refine W.skip ?_ | refine W.exit ?_ | refine W.ret ?_ | refine W.block ?_ | refine W.ct rfl ?_ | refine W.cf rfl ?_ | refine W.cond rfl (fun hb => ?_) (fun hb => ?_) | refine W.seq ?_) | refine thn ?_ | refine thx ?_ | refine thr ?_ | refine inh ?_ | refine inm rfl ?_ | refine inn ?_ | refine inr ?_))
  all_goals refine fin_r (h' := h) ⟨?_, rfl⟩
  all_goals simp [tupA, rmostF, *]
set_option maxRecDepth 100000 in
theorem rat_c (ps : List PR) (n : Int) (h : Heap) : ACalls Try.prog 29 [rlst ps, .val (.int .u32 n)] h (fun r h' => r = .val (.int .i64 (idxI (idxF ps n))) ∧ h' = h) := by
  refine ACalls.intro Try.func29 rfl Try.ntmps29 Try.results29 (Nat.le_of_ble_eq_true rfl) ?_
  refine W.len (k := 4) (l := ps.map PR.enc) 0 rfl (fun hL => ?_)
  simp only [List.length_map] at hL
  (repeat' (first | (refine iR ?_; first | refine RL.cons rfl ?_ | refine RL.nil ?_ | (refine RL.gt rfl rfl rfl rfl rfl (fun hg => ?_) (fun hg => ?_) <;> try (exfalso; omega)) | (refine RL.gf rfl rfl rfl rfl rfl (fun hg => ?_) (fun hg => ?_) <;> try (exfalso; omega)) | refine RL.ex rfl rfl rfl rfl rfl rfl ?_ | refine RL.sk rfl rfl rfl rfl rfl rfl ?_) | (refine iS ?_; first | (refine iZ ?_; refine S.nilq (fun b hq => ?_)) | (refine iL ?_; refine S.L ?_) | (refine iC ?_; first | refine S.append1 (fun u => ?_) | refine S.append (fun u => ?_) | refine S.append_nil (fun u => ?_)) | (refine iT ?_; first | refine S.store_one ?_ | refine S.store_whole ?_ | refine S.store_elem ?_ | refine S.store_field ?_) | (refine iA ?_; refine S.alloc (fun b => ?_)) | (refine iX ?_; refine S.box (fun b => ?_)) | (refine iN ?_; first | refine S.build1 (fun u => ?_) | refine S.build2 (fun u => ?_) | refine S.build3 (fun u => ?_) | refine S.build0 (fun u => ?_)) | (refine iK ?_; refine S.make (fun u => ?_)) | (refine iY ?_; refine S.copy ?_) | refine S.V ?_) | (refine iW ?_; first | refine W.rs ?_ | refine W.ss ?_ | refine W.assoc ?_ | (refine W.cd rfl (fun hc => ?_) (fun hc => ?_) <;> try (exfalso; omega)) | refine W.region ?_ | refine W.skip ?_ | refine W.exit ?_ | refine W.ret ?_ | refine W.block ?_ | refine W.ct rfl ?_ | refine W.cf rfl ?_ | refine W.cond rfl (fun hb => ?_) (fun hb => ?_) | refine W.seq ?_) | refine thn ?_ | refine thx ?_ | refine thr ?_ | refine inh ?_ | refine inm rfl ?_ | refine inn ?_ | refine inr ?_))
  refine W.loop (J := fun (x : Nat) => ⟨20, [(5, .val (.int .i64 (x:Int))), (4, .val (.int .i64 0)), (0, .ro 4 (ps.map PR.enc)), (1, .val (.int .u32 n))], h⟩)
    (Φ := fun x => x ≤ ps.length ∧ ∀ (j : Nat) (q : PR), j < x → ps[j]? = some q → q.name ≠ n) (μ := fun x => ps.length - x) 0 ⟨rfl, (by repeat (first | exact LeT.nil | refine LeT.cons rfl ?_ | refine LeT.consw rfl (by repeat (first | exact Wk.refl _ | exact Wk.nilr _ | apply Wk.aggc | apply Wk.tupc | exact Wk.aggn | exact Wk.tupn)) ?_)), (by repeat (first | exact LeH.refl _ | exact LeH.nil _ | refine LeH.cons (by repeat (first | exact Tk.here | apply Tk.there)) ?_ | refine LeH.boxw (by repeat (first | exact Tk.here | apply Tk.there)) (by repeat (first | exact Wk.refl _ | exact Wk.nilr _ | apply Wk.aggc | apply Wk.tupc | exact Wk.aggn | exact Wk.tupn)) ?_ | refine LeH.skip ?_))⟩ ⟨Nat.zero_le _, fun j q h => by omega⟩ (fun k ⟨hk, hall⟩ => ?_)
  (repeat' (first | (refine iR ?_; first | refine RL.cons rfl ?_ | refine RL.nil ?_ | (refine RL.gt rfl rfl rfl rfl rfl (fun hg => ?_) (fun hg => ?_) <;> try (exfalso; omega)) | (refine RL.gf rfl rfl rfl rfl rfl (fun hg => ?_) (fun hg => ?_) <;> try (exfalso; omega)) | refine RL.ex rfl rfl rfl rfl rfl rfl ?_ | refine RL.sk rfl rfl rfl rfl rfl rfl ?_) | (refine iS ?_; first | (refine iZ ?_; refine S.nilq (fun b hq => ?_)) | (refine iL ?_; refine S.L ?_) | (refine iC ?_; first | refine S.append1 (fun u => ?_) | refine S.append (fun u => ?_) | refine S.append_nil (fun u => ?_)) | (refine iT ?_; first | refine S.store_one ?_ | refine S.store_whole ?_ | refine S.store_elem ?_ | refine S.store_field ?_) | (refine iA ?_; refine S.alloc (fun b => ?_)) | (refine iX ?_; refine S.box (fun b => ?_)) | (refine iN ?_; first | refine S.build1 (fun u => ?_) | refine S.build2 (fun u => ?_) | refine S.build3 (fun u => ?_) | refine S.build0 (fun u => ?_)) | (refine iK ?_; refine S.make (fun u => ?_)) | (refine iY ?_; refine S.copy ?_) | refine S.V ?_) | (refine iW ?_; first | refine W.rs ?_ | refine W.ss ?_ | refine W.assoc ?_ | (refine W.cd rfl (fun hc => ?_) (fun hc => ?_) <;> try (exfalso; omega)) | refine W.region ?_ | refine W.skip ?_ | refine W.exit ?_ | refine W.ret ?_ | refine W.block ?_ | refine W.ct rfl ?_ | refine W.cf rfl ?_ | refine W.cond rfl (fun hb => ?_) (fun hb => ?_) | refine W.seq ?_) | refine thn ?_ | refine thx ?_ | refine thr ?_ | refine inh ?_ | refine inm rfl ?_ | refine inn ?_ | refine inr ?_))
  · have hlt : k < ps.length := by omega
    refine fin_r (h' := h) ⟨?_, rfl⟩
    rw [idxF_some hall (List.getElem?_eq_getElem hlt) (by assumption)]; rfl
  · have hlt : k < ps.length := by omega
    refine ⟨k + 1, ⟨hlt, fun j q hj hq => ?_⟩, ⟨rfl, (by repeat (first | exact LeT.nil | refine LeT.cons rfl ?_ | refine LeT.consw rfl (by repeat (first | exact Wk.refl _ | exact Wk.nilr _ | apply Wk.aggc | apply Wk.tupc | exact Wk.aggn | exact Wk.tupn)) ?_)), (by repeat (first | exact LeH.refl _ | exact LeH.nil _ | refine LeH.cons (by repeat (first | exact Tk.here | apply Tk.there)) ?_ | refine LeH.boxw (by repeat (first | exact Tk.here | apply Tk.there)) (by repeat (first | exact Wk.refl _ | exact Wk.nilr _ | apply Wk.aggc | apply Wk.tupc | exact Wk.aggn | exact Wk.tupn)) ?_ | refine LeH.skip ?_))⟩, by omega⟩
    by_cases h1 : j = k
    · subst h1
      rw [List.getElem?_eq_getElem hlt] at hq
      injection hq with hq
      subst hq; assumption
    · exact hall j q (by omega) hq
  · refine fin_r (h' := h) ⟨?_, rfl⟩
    rw [idxF_none fun i p hp => hall i p (by have := (List.getElem?_eq_some_iff.1 hp).1; omega) hp]; rfl
def rdelF (ps : List PR) (n : Int) : List PR := ps.filter (fun p => decide (p.name ≠ n))
theorem rdelF_succ {ps : List PR} {n : Int} {k : Nat} (hk : k < ps.length) : rdelF (ps.take (k + 1)) n = rdelF (ps.take k) n ++ if ps[k].name ≠ n then [ps[k]] else [] := by
  rw [List.take_add_one, List.getElem?_eq_getElem hk]
  unfold rdelF
  rw [List.filter_append]
  congr 1
  by_cases h : ps[k].name ≠ n <;> simp [h]
set_option maxRecDepth 100000 in
theorem rdel_c0 (ps : List PR) (n : Int) (h : Heap) (hl : ps.length ≤ 1000000) : ACalls Try.prog 30 [rlst ps, .val (.int .u32 n)] h (fun r h' => ∃ v, r = .val v ∧ h' = .own v 4 ((rdelF ps n).map PR.enc) 58 :: h) := by
  refine ACalls.intro Try.func30 rfl Try.ntmps30 Try.results30 (Nat.le_of_ble_eq_true rfl) ?_
  refine W.nil_ 4 58 ?_
  (repeat' (first | (refine iR ?_; first | refine RL.cons rfl ?_ | refine RL.nil ?_ | (refine RL.gt rfl rfl rfl rfl rfl (fun hg => ?_) (fun hg => ?_) <;> try (exfalso; omega)) | (refine RL.gf rfl rfl rfl rfl rfl (fun hg => ?_) (fun hg => ?_) <;> try (exfalso; omega)) | refine RL.ex rfl rfl rfl rfl rfl rfl ?_ | refine RL.sk rfl rfl rfl rfl rfl rfl ?_) | (refine iS ?_; first | (refine iZ ?_; refine S.nilq (fun b hq => ?_)) | (refine iL ?_; refine S.L ?_) | (refine iC ?_; first | refine S.append1 (fun u => ?_) | refine S.append (fun u => ?_) | refine S.append_nil (fun u => ?_)) | (refine iT ?_; first | refine S.store_one ?_ | refine S.store_whole ?_ | refine S.store_elem ?_ | refine S.store_field ?_) | (refine iA ?_; refine S.alloc (fun b => ?_)) | (refine iX ?_; refine S.box (fun b => ?_)) | (refine iN ?_; first | refine S.build1 (fun u => ?_) | refine S.build2 (fun u => ?_) | refine S.build3 (fun u => ?_) | refine S.build0 (fun u => ?_)) | (refine iK ?_; refine S.make (fun u => ?_)) | (refine iY ?_; refine S.copy ?_) | refine S.V ?_) | (refine iW ?_; first | refine W.rs ?_ | refine W.ss ?_ | refine W.assoc ?_ | (refine W.cd rfl (fun hc => ?_) (fun hc => ?_) <;> try (exfalso; omega)) | refine W.region ?_ | refine W.skip ?_ | refine W.exit ?_ | refine W.ret ?_ | refine W.block ?_ | refine W.ct rfl ?_ | refine W.cf rfl ?_ | refine W.cond rfl (fun hb => ?_) (fun hb => ?_) | refine W.seq ?_) | refine thn ?_ | refine thx ?_ | refine thr ?_ | refine inh ?_ | refine inm rfl ?_ | refine inn ?_ | refine inr ?_))
  refine W.loop (J := fun (x : Nat × Value) => ⟨28, [(6, .val (.int .i64 (x.1:Int))), (5, .val x.2), (0, .ro 4 (ps.map PR.enc)), (1, .val (.int .u32 n))], .own x.2 4 ((rdelF (ps.take x.1) n).map PR.enc) 58 :: h⟩)
    (Φ := fun x => x.1 ≤ ps.length) (μ := fun x => ps.length - x.1) (0, .slice none 0 0) ⟨rfl, (by repeat (first | exact LeT.nil | refine LeT.cons rfl ?_ | refine LeT.consw rfl (by repeat (first | exact Wk.refl _ | exact Wk.nilr _ | apply Wk.aggc | apply Wk.tupc | exact Wk.aggn | exact Wk.tupn)) ?_)), (by repeat (first | exact LeH.refl _ | exact LeH.nil _ | refine LeH.cons (by repeat (first | exact Tk.here | apply Tk.there)) ?_ | refine LeH.boxw (by repeat (first | exact Tk.here | apply Tk.there)) (by repeat (first | exact Wk.refl _ | exact Wk.nilr _ | apply Wk.aggc | apply Wk.tupc | exact Wk.aggn | exact Wk.tupn)) ?_ | refine LeH.skip ?_))⟩ (Nat.zero_le _) (fun ⟨k, v⟩ hk => ?_)
  dsimp only at hk ⊢
  have hfl : (rdelF (ps.take k) n).length ≤ 1000000 := Nat.le_trans (List.length_filter_le _ _) (by simp; omega)
  (repeat' (first | (refine iR ?_; first | refine RL.cons rfl ?_ | refine RL.nil ?_ | (refine RL.gt rfl rfl rfl rfl rfl (fun hg => ?_) (fun hg => ?_) <;> try (exfalso; omega)) | (refine RL.gf rfl rfl rfl rfl rfl (fun hg => ?_) (fun hg => ?_) <;> try (exfalso; omega)) | refine RL.ex rfl rfl rfl rfl rfl rfl ?_ | refine RL.sk rfl rfl rfl rfl rfl rfl ?_) | (refine iS ?_; first | (refine iZ ?_; refine S.nilq (fun b hq => ?_)) | (refine iL ?_; refine S.L ?_) | (refine iC ?_; first | refine S.append1 (fun u => ?_) | refine S.append (fun u => ?_) | refine S.append_nil (fun u => ?_)) | (refine iT ?_; first | refine S.store_one ?_ | refine S.store_whole ?_ | refine S.store_elem ?_ | refine S.store_field ?_) | (refine iA ?_; refine S.alloc (fun b => ?_)) | (refine iX ?_; refine S.box (fun b => ?_)) | (refine iN ?_; first | refine S.build1 (fun u => ?_) | refine S.build2 (fun u => ?_) | refine S.build3 (fun u => ?_) | refine S.build0 (fun u => ?_)) | (refine iK ?_; refine S.make (fun u => ?_)) | (refine iY ?_; refine S.copy ?_) | refine S.V ?_) | (refine iW ?_; first | refine W.rs ?_ | refine W.ss ?_ | refine W.assoc ?_ | (refine W.cd rfl (fun hc => ?_) (fun hc => ?_) <;> try (exfalso; omega)) | refine W.region ?_ | refine W.skip ?_ | refine W.exit ?_ | refine W.ret ?_ | refine W.block ?_ | refine W.ct rfl ?_ | refine W.cf rfl ?_ | refine W.cond rfl (fun hb => ?_) (fun hb => ?_) | refine W.seq ?_) | refine thn ?_ | refine thx ?_ | refine thr ?_ | refine inh ?_ | refine inm rfl ?_ | refine inn ?_ | refine inr ?_))
  · have hlt : k < ps.length := by omega
    have e : (rdelF (ps.take (k + 1)) n).map PR.enc = (rdelF (ps.take k) n).map PR.enc ++ [ps[k].enc] := by rw [rdelF_succ hlt, if_pos (by assumption)]; simp
    refine ⟨(k + 1, u), hlt, ?_, by dsimp only; omega⟩
    dsimp only
    rw [e]
    exact ⟨rfl, (by repeat (first | exact LeT.nil | refine LeT.cons rfl ?_ | refine LeT.consw rfl (by repeat (first | exact Wk.refl _ | exact Wk.nilr _ | apply Wk.aggc | apply Wk.tupc | exact Wk.aggn | exact Wk.tupn)) ?_)), (by repeat (first | exact LeH.refl _ | exact LeH.nil _ | refine LeH.cons (by repeat (first | exact Tk.here | apply Tk.there)) ?_ | refine LeH.boxw (by repeat (first | exact Tk.here | apply Tk.there)) (by repeat (first | exact Wk.refl _ | exact Wk.nilr _ | apply Wk.aggc | apply Wk.tupc | exact Wk.aggn | exact Wk.tupn)) ?_ | refine LeH.skip ?_))⟩
  · have hlt : k < ps.length := by omega
    refine ⟨(k + 1, v), hlt, ?_, by dsimp only; omega⟩
    dsimp only
    rw [rdelF_succ hlt, if_neg (by assumption), List.append_nil]
    exact ⟨rfl, (by repeat (first | exact LeT.nil | refine LeT.cons rfl ?_ | refine LeT.consw rfl (by repeat (first | exact Wk.refl _ | exact Wk.nilr _ | apply Wk.aggc | apply Wk.tupc | exact Wk.aggn | exact Wk.tupn)) ?_)), (by repeat (first | exact LeH.refl _ | exact LeH.nil _ | refine LeH.cons (by repeat (first | exact Tk.here | apply Tk.there)) ?_ | refine LeH.boxw (by repeat (first | exact Tk.here | apply Tk.there)) (by repeat (first | exact Wk.refl _ | exact Wk.nilr _ | apply Wk.aggc | apply Wk.tupc | exact Wk.aggn | exact Wk.tupn)) ?_ | refine LeH.skip ?_))⟩
  · have : k = ps.length := by omega
    subst this
    rw [List.take_length]
    refine fin_r (h' := .own v 4 ((rdelF ps n).map PR.enc) 58 :: h) ?_
    exact ⟨v, rfl, rfl⟩
theorem rdel_c (ps : List PR) (n : Int) (h : Heap) (hl : ps.length ≤ 1000000) : ACalls Try.prog 30 [rlst ps, .val (.int .u32 n)] h (fun r h' => r = rlst (rdelF ps n) ∧ h' = h) :=
  fz (g := id) (g' := id) (fun v => .hit) (rdel_c0 ps n h hl)
end Go.Proofs.Ytlnpelohdamklaa
