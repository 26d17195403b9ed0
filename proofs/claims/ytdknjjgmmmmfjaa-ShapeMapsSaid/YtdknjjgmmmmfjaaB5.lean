import Derived.Test.YtdknjjgmmmmfjaaS9
import Derived.Test.YtdknjjgmmmmfjaaU3
import Derived.Test.YtdknjjgmmmmfjaaB4
/- What a sorted list is; a number put into one. No condition. -/
namespace Go.Proofs.Ytdknjjgmmmmfjaa
open Go Go.VM
set_option linter.unusedVariables false
set_option linter.unusedSimpArgs false
theorem sorted_perm_eq : ∀ {a b : List Int}, a.Perm b → a.Pairwise (· ≤ ·) → b.Pairwise (· ≤ ·) → a = b
  | [], b, h, _, _ => by rw [List.nil_perm.1 h]
  | x :: a, [], h, _, _ => by simpa using h.length_eq
  | x :: a, y :: b, h, h1, h2 => by
    rw [List.pairwise_cons] at h1 h2
    have hxy : x = y := by
      have q1 : x ∈ y :: b := h.mem_iff.1 (.head _)
      have q2 : y ∈ x :: a := h.mem_iff.2 (.head _)
      rcases List.mem_cons.1 q1 with e | e
      · exact e
      · rcases List.mem_cons.1 q2 with e2 | e2
        · exact e2.symm
        · have := h1.1 y e2; have := h2.1 x e; omega
    subst hxy
    rw [sorted_perm_eq (List.Perm.cons_inv h) h1.2 h2.2]
theorem srt_perm (l : List Int) : (srt l).Perm l := List.mergeSort_perm _ _
theorem srt_sorted (l : List Int) : (srt l).Pairwise (· ≤ ·) := by
  have := List.pairwise_mergeSort (le := fun x y : Int => decide (x ≤ y)) (fun a b c h1 h2 => by simp at *; omega) (fun a b => by simp; omega) l
  exact this.imp (fun h => by simpa using h)
theorem srt_eq {l l' : List Int} (h : l'.Perm l) (hs : l'.Pairwise (· ≤ ·)) : l' = srt l :=
  sorted_perm_eq (h.trans (srt_perm l).symm) hs (srt_sorted l)
theorem srt_congr {l l' : List Int} (h : l.Perm l') : srt l = srt l' := srt_eq ((srt_perm l).trans h) (srt_sorted l)
end Go.Proofs.Ytdknjjgmmmmfjaa

/- A number put into a list that rises. No condition. -/
namespace Go.Proofs.Ytdknjjgmmmmfjaa
open Go Go.VM
attribute [local irreducible] PurV Pur Step RL W D ACalls Then InBlock Fini
set_option linter.unusedVariables false
set_option linter.unusedSimpArgs false
set_option maxHeartbeats 20000000
def insS (l : List Int) (n : Int) : List Int := (l.filter fun x => decide (x < n)) ++ n :: l.filter fun x => decide (n < x)
abbrev Up_ (l : List Int) : Prop := l.Pairwise (· < ·)
theorem filter_all {l : List Int} {p : Int → Bool} (h : ∀ x ∈ l, p x = true) : l.filter p = l := List.filter_eq_self.2 h
theorem filter_none {l : List Int} {p : Int → Bool} (h : ∀ x ∈ l, p x = false) : l.filter p = [] := by
  rw [List.filter_eq_nil_iff]; intro x hx; rw [h x hx]; simp
theorem insS_cut {a b : List Int} {n : Int} (h1 : ∀ x ∈ a, x < n) (h2 : ∀ x ∈ b, n < x) : insS (a ++ b) n = a ++ n :: b := by
  unfold insS
  rw [List.filter_append, List.filter_append, filter_all (fun x hx => by simpa using h1 x hx), filter_none (l := b) (fun x hx => by have := h2 x hx; simp; omega), filter_none (l := a) (fun x hx => by have := h1 x hx; simp; omega), filter_all (fun x hx => by simpa using h2 x hx)]
  simp
theorem insS_in {a b : List Int} {n : Int} (h1 : ∀ x ∈ a, x < n) (h2 : ∀ x ∈ b, n < x) : insS (a ++ n :: b) n = a ++ n :: b := by
  unfold insS
  rw [List.filter_append, List.filter_append, List.filter_cons, List.filter_cons, filter_all (fun x hx => by simpa using h1 x hx), filter_none (l := b) (fun x hx => by have := h2 x hx; simp; omega), filter_none (l := a) (fun x hx => by have := h1 x hx; simp; omega), filter_all (fun x hx => by simpa using h2 x hx)]
  simp
theorem up_cut {l : List Int} (h : Up_ l) {k : Nat} {x : Int} (hx : l[k]? = some x) : (∀ y ∈ l.take k, y < x) ∧ (∀ y ∈ l.drop (k + 1), x < y) ∧ l = l.take k ++ x :: l.drop (k + 1) := by
  have hlt : k < l.length := (List.getElem?_eq_some_iff.1 hx).1
  have e : l = l.take k ++ x :: l.drop (k + 1) := by
    have := List.take_append_drop k l
    rw [List.drop_eq_getElem_cons hlt] at this
    rw [List.getElem?_eq_getElem hlt] at hx
    injection hx with hx
    rw [hx] at this
    exact this.symm
  have h' := h
  unfold Up_ at h'
  rw [e, List.pairwise_append, List.pairwise_cons] at h'
  exact ⟨fun y hy => h'.2.2 y hy x (.head _), h'.2.1.1, e⟩
set_option maxRecDepth 100000 in
theorem put_c0 (l : List Int) (n : Int) (h : Heap) (hl : l.length ≤ 1000000) (hu : Up_ l) : ACalls Try.prog 74 [.ro 1 (ints .i64 l), .val (.int .i64 n)] h (fun r h' => (r = .ro 1 (ints .i64 (insS l n)) ∧ h' = h) ∨ ∃ v, r = .val v ∧ h' = .own v 1 (ints .i64 (insS l n)) 3 :: h) := by
  refine ACalls.intro Try.func74 rfl Try.ntmps74 Try.results74 (Nat.le_of_ble_eq_true rfl) ?_
  (repeat' (first | (refine iS ?_; refine iMu ?_; refine S.mapU ?_) | refine svz ⟨fun b hq => ?_⟩ | refine sv1 ?_ | refine svs ⟨?_⟩ | refine svu ⟨fun u => ?_⟩ | (refine svg (fun hg => ?_) (fun hg => ?_) <;> try (exfalso; first | omega | contradiction)) | (refine svc (fun hc => ?_) (fun hc => ?_) <;> try (exfalso; first | omega | contradiction)) | refine sv2 ?_ | refine svh (fun hb => ?_) (fun hb => ?_) | refine svb (fun b => ?_) | refine sva ?_ | refine sv3 ?_))
  refine W.loop (J := fun x : Nat × Int => ⟨44, [(5, .val (.int .i64 x.2)), (0, .ro 1 (ints .i64 l)), (1, .val (.int .i64 n))], h⟩)
    (Φ := fun x => x.1 ≤ l.length ∧ x.2 = (x.1 : Int) ∧ ∀ y ∈ l.drop x.1, n < y) (μ := fun x => x.1) (l.length, (l.length : Int)) lee ⟨Nat.le_refl _, rfl, by simp⟩ ?_
  rintro ⟨k, c⟩ ⟨hk, hc0, hd⟩
  dsimp only at hk hc0 hd ⊢
  subst hc0
  by_cases h0 : k = 0
  · subst h0
    have e := insS_cut (a := []) (b := l) (n := n) (by simp) (by simpa using hd)
    (repeat' (first | (refine iS ?_; refine iMu ?_; refine S.mapU ?_) | refine svz ⟨fun b hq => ?_⟩ | refine sv1 ?_ | refine svs ⟨?_⟩ | refine svu ⟨fun u => ?_⟩ | (refine svg (fun hg => ?_) (fun hg => ?_) <;> try (exfalso; first | omega | contradiction)) | (refine svc (fun hc => ?_) (fun hc => ?_) <;> try (exfalso; first | omega | contradiction)) | refine sv2 ?_ | refine svh (fun hb => ?_) (fun hb => ?_) | refine svb (fun b => ?_) | refine sva ?_ | refine sv3 ?_))
    exact fin_r (h' := .own u 1 (ints .i64 (insS l n)) 3 :: h) (.inr ⟨u, rfl, rfl⟩) (h2 := by rw [show ints .i64 (insS l n) = [] ++ List.take (0 - 0) (List.drop 0 (ints .i64 l)) ++ [.val (.int .i64 n)] ++ List.take ((ints .i64 l).length - 0) (List.drop 0 (ints .i64 l)) by have e' : insS l n = n :: l := e; rw [e']; simp [ints]; rw [List.take_of_length_le (by simp)]]; exact (by repeat (first | exact LeH.refl _ | exact LeH.nil _ | refine LeH.cons (by (fail_if_success (apply tkG)); (repeat (first | exact Tk.here | apply Tk.there)); first | done | fail) ?_ | refine LeH.boxw (by (fail_if_success (apply tkG)); (repeat (first | exact Tk.here | apply Tk.there)); first | done | fail) (by (repeat (first | exact Wk.refl _ | exact Wk.nilr _ | exact Wk.nilm | apply Wk.aggc | apply Wk.tupc | exact Wk.aggn | exact Wk.tupn)); first | done | fail) ?_ | refine LeH.skip ?_)))
  obtain ⟨j, rfl⟩ : ∃ j, k = j + 1 := ⟨k - 1, by omega⟩
  obtain ⟨x, hx⟩ : ∃ x, l[j]? = some x := ⟨_, List.getElem?_eq_getElem (by omega)⟩
  obtain ⟨c1, c2, c3⟩ := up_cut hu hx
  have hj : ((↑(j + 1) : Int) - 1).toNat = j := by omega
  have hxx : l[((↑(j + 1) : Int) - 1).toNat]'(by omega) = x := Option.some.inj ((List.getElem?_eq_getElem _).symm.trans (by rw [hj]; exact hx))
  have hlt : ∀ y ∈ l.take j, y < x := c1
  by_cases hnx : n ≤ x
  · by_cases he : x = n
    · have e := insS_in (a := l.take j) (b := l.drop (j + 1)) (n := n) (fun y hy => by have := c1 y hy; omega) (fun y hy => by have := c2 y hy; omega)
      rw [← he] at e
      rw [← c3, he] at e
      rw [e]
      (repeat' (first | (refine iS ?_; refine iMu ?_; refine S.mapU ?_) | refine svz ⟨fun b hq => ?_⟩ | refine sv1 ?_ | refine svs ⟨?_⟩ | refine svu ⟨fun u => ?_⟩ | (refine svg (fun hg => ?_) (fun hg => ?_) <;> try (exfalso; first | omega | contradiction)) | (refine svc (fun hc => ?_) (fun hc => ?_) <;> try (exfalso; first | omega | contradiction)) | refine sv2 ?_ | refine svh (fun hb => ?_) (fun hb => ?_) | refine svb (fun b => ?_) | refine sva ?_ | refine sv3 ?_))
      exact fin_r (h' := h) (.inl ⟨rfl, rfl⟩)
    · (repeat' (first | (refine iS ?_; refine iMu ?_; refine S.mapU ?_) | refine svz ⟨fun b hq => ?_⟩ | refine sv1 ?_ | refine svs ⟨?_⟩ | refine svu ⟨fun u => ?_⟩ | (refine svg (fun hg => ?_) (fun hg => ?_) <;> try (exfalso; first | omega | contradiction)) | (refine svc (fun hc => ?_) (fun hc => ?_) <;> try (exfalso; first | omega | contradiction)) | refine sv2 ?_ | refine svh (fun hb => ?_) (fun hb => ?_) | refine svb (fun b => ?_) | refine sva ?_ | refine sv3 ?_))
      refine ⟨(j, (↑(j + 1) : Int) - 1), ⟨by dsimp only; omega, by dsimp only; omega, fun y hy => ?_⟩, lee, by dsimp only; omega⟩
      dsimp only at hy
      rw [List.drop_eq_getElem_cons (by omega)] at hy
      have hxj : l[j]'(by omega) = x := Option.some.inj ((List.getElem?_eq_getElem _).symm.trans hx)
      rw [hxj] at hy
      rcases List.mem_cons.1 hy with rfl | hy
      · omega
      · have := c2 y hy; omega
  · have e := insS_cut (a := l.take (j + 1)) (b := l.drop (j + 1)) (n := n) (fun y hy => by
      rw [List.take_add_one, hx] at hy
      rcases List.mem_append.1 hy with hy | hy
      · have := c1 y hy; omega
      · simp at hy; omega) hd
    rw [List.take_append_drop] at e
    (repeat' (first | (refine iS ?_; refine iMu ?_; refine S.mapU ?_) | refine svz ⟨fun b hq => ?_⟩ | refine sv1 ?_ | refine svs ⟨?_⟩ | refine svu ⟨fun u => ?_⟩ | (refine svg (fun hg => ?_) (fun hg => ?_) <;> try (exfalso; first | omega | contradiction)) | (refine svc (fun hc => ?_) (fun hc => ?_) <;> try (exfalso; first | omega | contradiction)) | refine sv2 ?_ | refine svh (fun hb => ?_) (fun hb => ?_) | refine svb (fun b => ?_) | refine sva ?_ | refine sv3 ?_))
    exact fin_r (h' := .own u 1 (ints .i64 (insS l n)) 3 :: h) (.inr ⟨u, rfl, rfl⟩) (h2 := by rw [show ints .i64 (insS l n) = [] ++ List.take (j + 1 - 0) (List.drop 0 (ints .i64 l)) ++ [.val (.int .i64 n)] ++ List.take ((ints .i64 l).length - (j + 1)) (List.drop (j + 1) (ints .i64 l)) by rw [e]; simp [ints]; rw [List.take_of_length_le (by simp)]]; exact (by repeat (first | exact LeH.refl _ | exact LeH.nil _ | refine LeH.cons (by (fail_if_success (apply tkG)); (repeat (first | exact Tk.here | apply Tk.there)); first | done | fail) ?_ | refine LeH.boxw (by (fail_if_success (apply tkG)); (repeat (first | exact Tk.here | apply Tk.there)); first | done | fail) (by (repeat (first | exact Wk.refl _ | exact Wk.nilr _ | exact Wk.nilm | apply Wk.aggc | apply Wk.tupc | exact Wk.aggn | exact Wk.tupn)); first | done | fail) ?_ | refine LeH.skip ?_)))
theorem put_c (l : List Int) (n : Int) (h : Heap) (hl : l.length ≤ 1000000) (hu : Up_ l) : ACalls Try.prog 74 [.ro 1 (ints .i64 l), .val (.int .i64 n)] h (fun r h' => r = .ro 1 (ints .i64 (insS l n)) ∧ h' = h) := by
  refine (put_c0 l n h hl hu).frzo ?_
  rintro r h' (⟨rfl, rfl⟩ | ⟨v, rfl, rfl⟩)
  · exact .inl ⟨rfl, rfl⟩
  · exact .inr ⟨v, 1, _, _, _, h, .here, .hit, rfl, rfl⟩
end Go.Proofs.Ytdknjjgmmmmfjaa
