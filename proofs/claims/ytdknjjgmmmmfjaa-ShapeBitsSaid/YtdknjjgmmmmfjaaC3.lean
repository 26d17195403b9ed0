/- region's cuts. No condition. -/
import Derived.Test.YtdknjjgmmmmfjaaB12
import Derived.Test.YtdknjjgmmmmfjaaU4
namespace Go.Proofs.Ytdknjjgmmmmfjaa
open Go Go.VM
attribute [local irreducible] PurV Pur Step RL W D ACalls Then InBlock Fini
set_option linter.unusedVariables false
set_option linter.unusedSimpArgs false
set_option maxHeartbeats 20000000
def stE (ab : RC → Int × Int) (l : List RC) : List Int := l.flatMap fun r => [(ab r).1, (ab r).1 + (ab r).2]
theorem len_stE (ab : RC → Int × Int) (l : List RC) : (stE ab l).length = 2 * l.length := by
  induction l with
  | nil => rfl
  | cons r l ih =>
    have e : stE ab (r :: l) = [(ab r).1, (ab r).1 + (ab r).2] ++ stE ab l := rfl
    rw [e, List.length_append, ih, List.length_cons]; simp; omega
theorem stE_snoc {ab : RC → Int × Int} {l : List RC} {k : Nat} {r : RC} (hx : l[k]? = some r) : stE ab (l.take (k + 1)) = stE ab (l.take k) ++ [(ab r).1, (ab r).1 + (ab r).2] := by
  unfold stE; rw [List.take_add_one, hx, List.flatMap_append]; simp
def listE (l : List RC) : AV := .ro 4 (l.map RC.enc)
set_option maxRecDepth 100000 in
theorem cuts_c (ab : RC → Int × Int) (fv : AV) (f : Nat) (caps : List AV) [TFun Try.prog f] (hF : Fv fv f caps) (P Q : List RC) (h : Heap) (hP : P.length ≤ 200000) (hQ : Q.length ≤ 200000)
    (hT : ∀ r, r ∈ P ++ Q → ∀ h, ACalls Try.prog f ([r.enc] ++ caps) h (fun v h' => v = .tup [.val (.int .i64 (ab r).1), .val (.int .i64 (ab r).2)] ∧ h' = h))
    (hM : ∀ r ∈ P ++ Q, (-4000000 ≤ (ab r).1 ∧ (ab r).1 ≤ 4000000) ∧ -4000000 ≤ (ab r).2 ∧ (ab r).2 ≤ 4000000) :
    ACalls Try.prog 86 [fv, .ro 1 [listE P, listE Q]] h (fun r h' => ∃ w, r = .val w ∧ h' = .own w 1 (ints .i64 (ddF (srt (stE ab P ++ stE ab Q)))) 3 :: h) := by
  refine ACalls.intro Try.func86 rfl Try.ntmps86 Try.results86 (Nat.le_of_ble_eq_true rfl) ?_
  (repeat' (first | (refine iS ?_; refine iMu ?_; refine S.mapU ?_) | refine svz ⟨fun b hq => ?_⟩ | refine sv1 ?_ | refine svs ⟨?_⟩ | refine svu ⟨fun u => ?_⟩ | (refine svg (fun hg => ?_) (fun hg => ?_) <;> try (exfalso; first | omega | contradiction)) | (refine svc (fun hc => ?_) (fun hc => ?_) <;> try (exfalso; first | omega | contradiction)) | refine sv2 ?_ | refine svh (fun hb => ?_) (fun hb => ?_) | refine svb (fun b => ?_) | refine sva ?_ | refine sv3 ?_))
  refine W.nil_ 1 3 ?_
  have hLs : ∀ (k : Nat) (L : List RC), [P, Q][k]? = some L → (∀ r ∈ L, r ∈ P ++ Q) ∧ L.length ≤ 200000 := by
    intro k L hk
    match k, hk with
    | 0, hk => simp at hk; subst hk; exact ⟨fun r hr => List.mem_append.2 (.inl hr), hP⟩
    | 1, hk => simp at hk; subst hk; exact ⟨fun r hr => List.mem_append.2 (.inr hr), hQ⟩
    | k + 2, hk => simp at hk
  refine W.loop (J := fun q : Nat × Value => ⟨43, [(14, .val (.int .i64 (q.1 : Int))), (13, .val (.int .i64 2)), (12, .ro 1 ([P, Q].map listE)), (5, .val q.2), (0, fv)], .own q.2 1 (ints .i64 (([P, Q].take q.1).flatMap (stE ab))) 3 :: h⟩)
    (Φ := fun q => q.1 ≤ 2) (μ := fun q => 2 - q.1) (0, .slice none 0 0) lee (Nat.zero_le _) ?_
  rintro ⟨i, v⟩ hi
  dsimp only at hi ⊢
  have hlen : (([P, Q].take i).flatMap (stE ab)).length ≤ 800000 := by
    match i, hi with
    | 0, _ => simp
    | 1, _ => simp [len_stE]; omega
    | 2, _ => simp [len_stE]; omega
  rcases Nat.lt_or_ge i 2 with hlt | hge
  · obtain ⟨L, hL⟩ : ∃ L, [P, Q][i]? = some L := ⟨_, List.getElem?_eq_getElem (by simpa using hlt)⟩
    obtain ⟨hL1, hL2⟩ := hLs i L hL
    have hs : ([P, Q].take (i + 1)).flatMap (stE ab) = ([P, Q].take i).flatMap (stE ab) ++ stE ab L := by rw [List.take_add_one, hL, List.flatMap_append]; simp
    have hil : i < [P, Q].length := by simpa using hlt
    generalize ([P, Q].take i).flatMap (stE ab) = E0 at *
    generalize [P, Q] = Ls at *
    (repeat' (first | (refine iS ?_; refine iMu ?_; refine S.mapU ?_) | refine svz ⟨fun b hq => ?_⟩ | refine sv1 ?_ | refine svs ⟨?_⟩ | refine svu ⟨fun u => ?_⟩ | (refine svg (fun hg => ?_) (fun hg => ?_) <;> try (exfalso; first | omega | contradiction)) | (refine svc (fun hc => ?_) (fun hc => ?_) <;> try (exfalso; first | omega | contradiction)) | refine sv2 ?_ | refine svh (fun hb => ?_) (fun hb => ?_) | refine svb (fun b => ?_) | refine sva ?_ | refine sv3 ?_))
    refine W.loop (J := fun q : Nat × Value => ⟨43, [(20, .val (.int .i64 (q.1 : Int))), (19, .val (.int .i64 (L.length : Int))), (18, .ro 4 (L.map RC.enc)), (14, .val (.int .i64 (i : Int))), (13, .val (.int .i64 2)), (12, .ro 1 (Ls.map listE)), (5, .val q.2), (0, fv)], .own q.2 1 (ints .i64 (E0 ++ stE ab (L.take q.1))) 3 :: h⟩)
      (Φ := fun q => q.1 ≤ L.length) (μ := fun q => L.length - q.1) (0, v) (by dsimp only; rw [List.take_zero, show stE ab [] = [] from rfl, List.append_nil]; exact lee) (Nat.zero_le _) ?_
    rintro ⟨k, v1⟩ hk
    dsimp only at hk ⊢
    have hlk : (E0 ++ stE ab (L.take k)).length ≤ 1200000 := by rw [List.length_append, len_stE, List.length_take]; omega
    rcases Nat.lt_or_ge k L.length with hkl | hkg
    · obtain ⟨r, hr⟩ : ∃ r, L[k]? = some r := ⟨_, List.getElem?_eq_getElem hkl⟩
      have hrm := hL1 r (List.mem_of_getElem? hr)
      obtain ⟨⟨m1, m2⟩, m3, m4⟩ := hM r hrm
      have hs2 := stE_snoc (ab := ab) hr
      have hs3 : ints .i64 (E0 ++ stE ab (L.take (k + 1))) = ints .i64 (E0 ++ stE ab (L.take k)) ++ ints .i64 [(ab r).1, (ab r).1 + (ab r).2] := by rw [hs2, ← List.append_assoc]; simp [ints]
      have hlk2 : E0.length + (stE ab (L.take k)).length ≤ 1200000 := by rw [← List.length_append]; exact hlk
      (repeat' (first | (refine iS ?_; refine iMu ?_; refine S.mapU ?_) | refine svz ⟨fun b hq => ?_⟩ | refine sv1 ?_ | refine svs ⟨?_⟩ | refine svu ⟨fun u => ?_⟩ | (refine svg (fun hg => ?_) (fun hg => ?_) <;> try (exfalso; first | omega | contradiction)) | (refine svc (fun hc => ?_) (fun hc => ?_) <;> try (exfalso; first | omega | contradiction)) | refine sv2 ?_ | refine svh (fun hb => ?_) (fun hb => ?_) | refine svb (fun b => ?_) | refine sva ?_ | refine sv3 ?_))
      refine S.callv hF ?_
      refine (hT r hrm _).mono ?_
      rintro r' h' ⟨rfl, hh⟩; subst hh
      (repeat' (first | (refine iS ?_; refine iMu ?_; refine S.mapU ?_) | refine svz ⟨fun b hq => ?_⟩ | refine sv1 ?_ | refine svs ⟨?_⟩ | refine svu ⟨fun u => ?_⟩ | (refine svg (fun hg => ?_) (fun hg => ?_) <;> try (exfalso; first | omega | contradiction)) | (refine svc (fun hc => ?_) (fun hc => ?_) <;> try (exfalso; first | omega | contradiction)) | refine sv2 ?_ | refine svh (fun hb => ?_) (fun hb => ?_) | refine svb (fun b => ?_) | refine sva ?_ | refine sv3 ?_))
      exact ⟨(k + 1, u), hkl, by dsimp only; rw [hs3]; exact lee, by dsimp only; omega⟩
    · rw [List.take_of_length_le hkg] at hlk ⊢
      (repeat' (first | (refine iS ?_; refine iMu ?_; refine S.mapU ?_) | refine svz ⟨fun b hq => ?_⟩ | refine sv1 ?_ | refine svs ⟨?_⟩ | refine svu ⟨fun u => ?_⟩ | (refine svg (fun hg => ?_) (fun hg => ?_) <;> try (exfalso; first | omega | contradiction)) | (refine svc (fun hc => ?_) (fun hc => ?_) <;> try (exfalso; first | omega | contradiction)) | refine sv2 ?_ | refine svh (fun hb => ?_) (fun hb => ?_) | refine svb (fun b => ?_) | refine sva ?_ | refine sv3 ?_))
      exact ⟨(i + 1, v1), hlt, by dsimp only; rw [hs]; exact lee, by dsimp only; omega⟩
  · have e : i = 2 := by omega
    subst e
    have e2 : ([P, Q].take 2).flatMap (stE ab) = stE ab P ++ stE ab Q := by simp
    rw [e2] at hlen ⊢
    (repeat' (first | (refine iS ?_; refine iMu ?_; refine S.mapU ?_) | refine svz ⟨fun b hq => ?_⟩ | refine sv1 ?_ | refine svs ⟨?_⟩ | refine svu ⟨fun u => ?_⟩ | (refine svg (fun hg => ?_) (fun hg => ?_) <;> try (exfalso; first | omega | contradiction)) | (refine svc (fun hc => ?_) (fun hc => ?_) <;> try (exfalso; first | omega | contradiction)) | refine sv2 ?_ | refine svh (fun hb => ?_) (fun hb => ?_) | refine svb (fun b => ?_) | refine sva ?_ | refine sv3 ?_))
    refine S.call ?_; refine (sort_c (stE ab P ++ stE ab Q) v h (by omega)).mono ?_; rintro r h' ⟨rfl, hh⟩; subst hh
    (repeat' (first | (refine iS ?_; refine iMu ?_; refine S.mapU ?_) | refine svz ⟨fun b hq => ?_⟩ | refine sv1 ?_ | refine svs ⟨?_⟩ | refine svu ⟨fun u => ?_⟩ | (refine svg (fun hg => ?_) (fun hg => ?_) <;> try (exfalso; first | omega | contradiction)) | (refine svc (fun hc => ?_) (fun hc => ?_) <;> try (exfalso; first | omega | contradiction)) | refine sv2 ?_ | refine svh (fun hb => ?_) (fun hb => ?_) | refine svb (fun b => ?_) | refine sva ?_ | refine sv3 ?_))
    refine S.call ?_
    refine (compact_c (srt (stE ab P ++ stE ab Q)) v h (by rw [(srt_perm _).length_eq]; omega)).mono ?_
    rintro r h' ⟨w, rfl, hh⟩; subst hh
    (repeat' (first | (refine iS ?_; refine iMu ?_; refine S.mapU ?_) | refine svz ⟨fun b hq => ?_⟩ | refine sv1 ?_ | refine svs ⟨?_⟩ | refine svu ⟨fun u => ?_⟩ | (refine svg (fun hg => ?_) (fun hg => ?_) <;> try (exfalso; first | omega | contradiction)) | (refine svc (fun hc => ?_) (fun hc => ?_) <;> try (exfalso; first | omega | contradiction)) | refine sv2 ?_ | refine svh (fun hb => ?_) (fun hb => ?_) | refine svb (fun b => ?_) | refine sva ?_ | refine sv3 ?_))
    exact fin_r (h' := _) ⟨w, rfl, rfl⟩
end Go.Proofs.Ytdknjjgmmmmfjaa
