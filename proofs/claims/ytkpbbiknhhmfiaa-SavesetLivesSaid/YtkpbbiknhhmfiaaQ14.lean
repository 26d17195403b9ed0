/- Plain: the windows of a list, their tree, places, ids. No condition. -/
import Derived.Test.YtkpbbiknhhmfiaaQ13
namespace Go.Proofs.Ytkpbbiknhhmfiaa
open Go Go.VM
set_option linter.unusedVariables false
set_option linter.unusedSimpArgs false
set_option maxHeartbeats 2000000
structure WN where
  (i x y : Int) (m s : Bool)
def WN.enc (w : WN) : AV := .agg [.val (.int .u8 w.i), .val (.int .i8 w.x), .val (.int .i8 w.y), .val (.bool w.m), .val (.bool w.s)]
structure WN.Ok (w : WN) : Prop where
  i : 0 ≤ w.i ∧ w.i ≤ 255
  x : -128 ≤ w.x ∧ w.x ≤ 127
  y : -128 ≤ w.y ∧ w.y ≤ 127
def idF (n : Nat) : Int := if n = 0 then 1 else (1 + (n : Int) % 2) * 1048576 + n
theorem idF_0 : idF 0 = 1 := rfl
theorem idF_pos {n : Nat} (h : 0 < n) : idF n = (1 + (n : Int) % 2) * 1048576 + n := by unfold idF; rw [if_neg (by omega)]
theorem idF_v {n : Nat} (h : 0 < n) : idF n = 1048576 + n ∨ idF n = 2097152 + n := by
  rw [idF_pos h]
  rcases Int.emod_two_eq (n : Int) with e | e
  · left; rw [e]; omega
  · right; rw [e]; omega
theorem idF_bd {n : Nat} (hn : n ≤ 1000) : 1 ≤ idF n ∧ idF n ≤ 4000000 := by
  by_cases h : n = 0
  · subst h; rw [idF_0]; omega
  · rcases idF_v (n := n) (by omega) with e | e <;> rw [e] <;> omega
theorem idF_inj {n m : Nat} (hn : n ≤ 1000) (hm : m ≤ 1000) (h : idF n = idF m) : n = m := by
  by_cases h1 : n = 0 <;> by_cases h2 : m = 0
  · omega
  · subst h1; rw [idF_0] at h; rcases idF_v (n := m) (by omega) with e | e <;> omega
  · subst h2; rw [idF_0] at h; rcases idF_v (n := n) (by omega) with e | e <;> omega
  · rcases idF_v (n := m) (by omega) with e | e <;> rcases idF_v (n := n) (by omega) with e2 | e2 <;> omega
theorem idF_ne1 {n : Nat} (h : 0 < n) (hn : n ≤ 1000) : idF n ≠ 1 := by rcases idF_v h with e | e <;> omega
theorem cli_id {n : Nat} (h : 0 < n) (hn : n ≤ 1000) : cliF (idF n) = (1 + (n : Int) % 2, true) := by
  rw [cli_v (idF_ne1 h hn), idF_pos h]
  have h1 : ((1 + (n : Int) % 2) * 1048576 + n) / 1048576 = 1 + (n : Int) % 2 := by rcases Int.emod_two_eq (n : Int) with e | e <;> rw [e] <;> omega
  have h2 : ((1 + (n : Int) % 2) * 1048576 + n) % 1048576 = n := by rcases Int.emod_two_eq (n : Int) with e | e <;> rw [e] <;> omega
  rw [h1, h2, if_neg (by rcases Int.emod_two_eq (n : Int) with e | e <;> rw [e] <;> omega)]
theorem ic_id {n : Nat} (h : 0 < n) (hn : n ≤ 1000) : icF (idF n) = 0 := by
  unfold icF
  have := idF_bd hn
  rw [if_neg (by omega), cli_id h hn, if_pos rfl]
theorem sch_id {n : Nat} (h : n % 2 = 1) (hn : n ≤ 1000) : schF 1 (idF n) = 0 := by
  rw [sch_v (by omega), ic_id (by omega) hn, if_neg (show ¬ (0 : Int) ≠ 0 by decide), if_neg (idF_ne1 (by omega) hn), show mineF 1 (idF n) = false by
    unfold mineF
    rw [cli_id (by omega) hn]
    simp
    omega]
  rfl
/-- A tree of N windows: each one's parent is one of those ahead of it. -/
structure Wf (N : Nat) (up : UP) : Prop where
  nd : (up.map (·.1)).Nodup
  tot : ∀ n, 0 < n → n ≤ N → ∃ m, m < n ∧ lkF up (idF n) = some (idF m)
  only : ∀ id p, lkF up id = some p → ∃ n, 0 < n ∧ n ≤ N ∧ id = idF n
theorem Wf.no {N : Nat} {up : UP} (w : Wf N up) (hN : N ≤ 1000) {id : Int} (h : ∀ n, 0 < n → n ≤ N → id ≠ idF n) : lkF up id = none := by
  cases e : lkF up id with
  | none => rfl
  | some p => obtain ⟨n, h1, h2, h3⟩ := w.only id p e; exact absurd h3 (h n h1 h2)
theorem Wf.n0 {N : Nat} {up : UP} (w : Wf N up) (hN : N ≤ 1000) : lkF up 0 = none := w.no hN fun n h1 h2 => by have := (idF_bd (n := n) (by omega)).1; omega
theorem Wf.n1 {N : Nat} {up : UP} (w : Wf N up) (hN : N ≤ 1000) : lkF up 1 = none := w.no hN fun n h1 h2 => fun e => idF_ne1 h1 (by omega) e.symm
theorem Wf.pth {N : Nat} {up : UP} (w : Wf N up) (hN : N ≤ 1000) : ∀ n, n ≤ N → ∃ L, Pth up (idF n) L ∧ L.length ≤ n ∧ ∀ x ∈ L, ∃ m, m < n ∧ x = idF m := by
  intro n
  induction n using Nat.strongRecOn with
  | _ n ih =>
    intro hn
    by_cases h0 : n = 0
    · subst h0
      exact ⟨[], .root, Nat.le_refl _, by simp⟩
    · obtain ⟨m, hm, e⟩ := w.tot n (by omega) hn
      obtain ⟨L, h1, h2, h3⟩ := ih m hm (by omega)
      refine ⟨idF m :: L, .up (idF_ne1 (by omega) (by omega)) e h1, by simp; omega, fun x hx => ?_⟩
      rcases List.mem_cons.1 hx with rfl | hx
      · exact ⟨m, hm, rfl⟩
      · obtain ⟨q, hq, rfl⟩ := h3 x hx
        exact ⟨q, by omega, rfl⟩
theorem Pth.uniq {up : UP} {id : Int} {L : List Int} (h : Pth up id L) : ∀ {M : List Int}, Pth up id M → L = M := by
  induction h with
  | root =>
    intro M hM
    cases hM with
    | root => rfl
    | up h1 _ _ => exact absurd rfl h1
  | @up id p L h1 h2 r ih =>
    intro M hM
    cases hM with
    | root => exact absurd rfl h1
    | up g1 g2 g =>
      rw [h2] at g2
      injection g2 with g2
      subst g2
      rw [ih g]
open Classical in
noncomputable def rP (up : UP) (id : Int) : List Int := if h : ∃ L, Pth up id L then h.choose else []
theorem rP_eq {up : UP} {id : Int} {L : List Int} (h : Pth up id L) : rP up id = L := by
  unfold rP
  have e : ∃ L, Pth up id L := ⟨L, h⟩
  rw [dif_pos e]
  exact e.choose_spec.uniq h
/-! ### The windows of a list -/
def parI (w : WN) (j : Nat) : Nat := (w.i % ((j : Int) + 1)).toNat
theorem parI_le (w : WN) (j : Nat) : parI w j ≤ j := by
  unfold parI
  have := Int.emod_lt_of_pos w.i (show (0 : Int) < (j : Int) + 1 by omega)
  omega
theorem parI_eq (w : WN) (j : Nat) : ((parI w j : Nat) : Int) = w.i % ((j : Int) + 1) := by
  unfold parI
  have := Int.emod_nonneg w.i (show ((j : Int) + 1) ≠ 0 by omega)
  omega
def upW (p : WN × Nat) : Int × Int := (idF (p.2 + 1), idF (parI p.1 p.2))
def bxW (p : WN × Nat) : Int × BX := (idF (p.2 + 1), ⟨p.1.x, p.1.y, 5, 5, p.1.m, 0⟩)
def svW (p : WN × Nat) : Bool := p.1.s && decide ((p.2 + 1) % 2 = 1)
def upL (l : List WN) : UP := l.zipIdx.map upW
def ptL (l : List WN) : PT := (1, rootB 64 64) :: l.zipIdx.map bxW
def svL (l : List WN) : List Int := (l.zipIdx.filter svW).map fun p => idF (p.2 + 1)
theorem upL_snoc (l : List WN) (w : WN) : upL (l ++ [w]) = upL l ++ [(idF (l.length + 1), idF (parI w l.length))] := by
  unfold upL; rw [List.zipIdx_append, List.map_append]; simp [upW]
theorem ptL_snoc (l : List WN) (w : WN) : ptL (l ++ [w]) = ptL l ++ [(idF (l.length + 1), ⟨w.x, w.y, 5, 5, w.m, 0⟩)] := by
  unfold ptL; rw [List.zipIdx_append, List.map_append]; simp [bxW]
theorem svL_snoc (l : List WN) (w : WN) : svL (l ++ [w]) = svL l ++ if svW (w, l.length) then [idF (l.length + 1)] else [] := by
  unfold svL; rw [List.zipIdx_append, List.filter_append, List.map_append]
  cases h : svW (w, l.length) <;> simp [h]
theorem upL_at {l : List WN} {j : Nat} {w : WN} (h : l[j]? = some w) : (idF (j + 1), idF (parI w j)) ∈ upL l := by
  refine List.mem_map.2 ⟨(w, j), ?_, rfl⟩
  exact List.mem_zipIdx_iff_getElem?.2 h
theorem ptL_at {l : List WN} {j : Nat} {w : WN} (h : l[j]? = some w) : (idF (j + 1), (⟨w.x, w.y, 5, 5, w.m, 0⟩ : BX)) ∈ ptL l := by
  refine List.mem_cons_of_mem _ (List.mem_map.2 ⟨(w, j), ?_, rfl⟩)
  exact List.mem_zipIdx_iff_getElem?.2 h
theorem upL_mem {l : List WN} {q : Int × Int} (h : q ∈ upL l) : ∃ j w, l[j]? = some w ∧ q = (idF (j + 1), idF (parI w j)) := by
  obtain ⟨⟨w, j⟩, h1, rfl⟩ := List.mem_map.1 h
  exact ⟨j, w, List.mem_zipIdx_iff_getElem?.1 h1, rfl⟩
theorem ptL_mem {l : List WN} {q : Int × BX} (h : q ∈ ptL l) : q = (1, rootB 64 64) ∨ ∃ j w, l[j]? = some w ∧ q = (idF (j + 1), ⟨w.x, w.y, 5, 5, w.m, 0⟩) := by
  rcases List.mem_cons.1 h with h | h
  · exact .inl h
  · obtain ⟨⟨w, j⟩, h1, rfl⟩ := List.mem_map.1 h
    exact .inr ⟨j, w, List.mem_zipIdx_iff_getElem?.1 h1, rfl⟩
theorem svL_mem {l : List WN} {id : Int} (h : id ∈ svL l) : ∃ j w, l[j]? = some w ∧ w.s = true ∧ (j + 1) % 2 = 1 ∧ id = idF (j + 1) := by
  obtain ⟨⟨w, j⟩, h1, rfl⟩ := List.mem_map.1 h
  obtain ⟨h1, h2⟩ := List.mem_filter.1 h1
  unfold svW at h2
  rw [Bool.and_eq_true] at h2
  exact ⟨j, w, List.mem_zipIdx_iff_getElem?.1 h1, h2.1, of_decide_eq_true h2.2, rfl⟩
theorem lt_of_some {α : Type} {l : List α} {j : Nat} {w : α} (h : l[j]? = some w) : j < l.length := (List.getElem?_eq_some_iff.1 h).1
theorem upL_len (l : List WN) : (upL l).length = l.length := by unfold upL; simp
theorem ptL_len (l : List WN) : (ptL l).length = l.length + 1 := by unfold ptL; simp
theorem svL_len (l : List WN) : (svL l).length ≤ l.length := by
  unfold svL
  rw [List.length_map]
  have := List.length_filter_le svW l.zipIdx
  rwa [List.length_zipIdx] at this
theorem keys_nodup (l : List WN) (hl : l.length ≤ 100) : (l.zipIdx.map fun p => idF (p.2 + 1)).Nodup := by
  rw [List.nodup_iff_pairwise_ne, List.pairwise_iff_getElem]
  intro i j hi hj hij
  simp only [List.length_map, List.length_zipIdx] at hi hj
  simp only [List.getElem_map, List.getElem_zipIdx, Nat.zero_add]
  intro e
  have := idF_inj (by omega) (by omega) e
  omega
theorem upL_wf (l : List WN) (hl : l.length ≤ 100) : Wf l.length (upL l) := by
  have nd : ((upL l).map (·.1)).Nodup := by
    have := keys_nodup l hl
    unfold upL
    rw [List.map_map]
    exact this
  refine ⟨nd, fun n h0 hn => ?_, fun id p h => ?_⟩
  · obtain ⟨w, hw⟩ : ∃ w, l[n - 1]? = some w := ⟨_, List.getElem?_eq_getElem (by omega)⟩
    have := upL_at hw
    rw [show n - 1 + 1 = n by omega] at this
    refine ⟨parI w (n - 1), by have := parI_le w (n - 1); omega, lkF_nodup nd this⟩
  · obtain ⟨j, w, h1, h2⟩ := upL_mem (lkF_some h)
    injection h2 with h2 h3
    exact ⟨j + 1, by omega, lt_of_some h1, h2⟩
theorem ptL_nodup (l : List WN) (hl : l.length ≤ 100) : ((ptL l).map (·.1)).Nodup := by
  have := keys_nodup l hl
  unfold ptL
  rw [List.map_cons, List.nodup_cons, List.map_map]
  refine ⟨fun h => ?_, this⟩
  obtain ⟨⟨w, j⟩, h1, h2⟩ := List.mem_map.1 h
  have h2 : idF (j + 1) = 1 := h2
  have := lt_of_some (List.mem_zipIdx_iff_getElem?.1 h1)
  exact idF_ne1 (by omega) (by omega) h2
theorem svL_sorted (l : List WN) (hl : l.length ≤ 100) : (svL l).Pairwise (· ≤ ·) := by
  unfold svL
  rw [List.pairwise_map]
  refine List.Pairwise.imp_of_mem (R := fun (a b : WN × Nat) => a.2 < b.2) (fun {a b} ha hb hab => ?_) ?_
  · obtain ⟨ha, sa⟩ := List.mem_filter.1 ha
    obtain ⟨hb, sb⟩ := List.mem_filter.1 hb
    have sa : (a.2 + 1) % 2 = 1 := by unfold svW at sa; rw [Bool.and_eq_true] at sa; exact of_decide_eq_true sa.2
    have sb : (b.2 + 1) % 2 = 1 := by unfold svW at sb; rw [Bool.and_eq_true] at sb; exact of_decide_eq_true sb.2
    rw [idF_pos (by omega), idF_pos (by omega), show ((a.2 + 1 : Nat) : Int) % 2 = 1 by omega, show ((b.2 + 1 : Nat) : Int) % 2 = 1 by omega]
    omega
  · refine List.Pairwise.filter _ ?_
    rw [List.pairwise_iff_getElem]
    intro i j hi hj hij
    simp only [List.getElem_zipIdx]
    omega
theorem svL_srt (l : List WN) (hl : l.length ≤ 100) : srt (svL l) = svL l := (srt_eq (List.Perm.refl _) (svL_sorted l hl)).symm
end Go.Proofs.Ytkpbbiknhhmfiaa
