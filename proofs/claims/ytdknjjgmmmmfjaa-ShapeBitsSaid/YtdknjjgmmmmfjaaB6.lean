/- The reference's Edges. No condition. -/
import Derived.Test.YtdknjjgmmmmfjaaB5
namespace Go.Proofs.Ytdknjjgmmmmfjaa
open Go Go.VM
attribute [local irreducible] PurV Pur Step RL W D ACalls Then InBlock Fini
set_option linter.unusedVariables false
set_option linter.unusedSimpArgs false
set_option maxHeartbeats 20000000
theorem mem_insS {l : List Int} {n x : Int} : x ∈ insS l n ↔ x = n ∨ x ∈ l := by
  unfold insS
  simp only [List.mem_append, List.mem_cons, List.mem_filter, decide_eq_true_eq]
  constructor
  · rintro (h | h | h)
    · exact .inr h.1
    · exact .inl h
    · exact .inr h.1
  · rintro (h | h)
    · exact .inr (.inl h)
    · by_cases h1 : x < n
      · exact .inl ⟨h, h1⟩
      · by_cases h2 : x = n
        · exact .inr (.inl h2)
        · exact .inr (.inr ⟨h, by omega⟩)
theorem up_insS {l : List Int} (h : Up_ l) (n : Int) : Up_ (insS l n) := by
  unfold insS Up_ at *
  rw [List.pairwise_append, List.pairwise_cons]
  refine ⟨h.filter _, ⟨fun x hx => by simp at hx; exact hx.2, h.filter _⟩, fun a ha b hb => ?_⟩
  simp at ha
  rcases List.mem_cons.1 hb with rfl | hb
  · exact ha.2
  · simp at hb; omega
theorem len_insS (l : List Int) (n : Int) : (insS l n).length ≤ l.length + 1 := by
  unfold insS
  induction l with
  | nil => simp
  | cons x l ih =>
    simp only [List.filter_cons, List.length_append, List.length_cons] at *
    by_cases h1 : x < n
    · have : ¬ n < x := by omega
      simp [h1, this]; omega
    · by_cases h2 : n < x
      · simp [h1, h2]; omega
      · simp [h1, h2]; omega
def xsF : List RC → List Int
  | [] => []
  | r :: l => if r.cnt then insS (insS (xsF l) r.x) (r.x + r.w) else xsF l
def ysF : List RC → List Int
  | [] => []
  | r :: l => if r.cnt then insS (insS (ysF l) r.y) (r.y + r.h) else ysF l
theorem up_xsF : ∀ l, Up_ (xsF l)
  | [] => .nil
  | r :: l => by unfold xsF; split; exact up_insS (up_insS (up_xsF l) _) _; exact up_xsF l
theorem up_ysF : ∀ l, Up_ (ysF l)
  | [] => .nil
  | r :: l => by unfold ysF; split; exact up_insS (up_insS (up_ysF l) _) _; exact up_ysF l
theorem len_xsF : ∀ l, (xsF l).length ≤ 2 * l.length
  | [] => by simp [xsF]
  | r :: l => by
    have := len_xsF l
    unfold xsF
    split
    · have h1 := len_insS (insS (xsF l) r.x) (r.x + r.w)
      have h2 := len_insS (xsF l) r.x
      simp only [List.length_cons]; omega
    · simp only [List.length_cons]; omega
theorem len_ysF : ∀ l, (ysF l).length ≤ 2 * l.length
  | [] => by simp [ysF]
  | r :: l => by
    have := len_ysF l
    unfold ysF
    split
    · have h1 := len_insS (insS (ysF l) r.y) (r.y + r.h)
      have h2 := len_insS (ysF l) r.y
      simp only [List.length_cons]; omega
    · simp only [List.length_cons]; omega
/-- The order in which they come does not count: from the end of what has come. -/
theorem take_rev {l : List RC} {k : Nat} {r : RC} (hx : l[k]? = some r) : (l.take (k + 1)).reverse = r :: (l.take k).reverse := by
  rw [List.take_add_one, hx]; simp
set_option maxRecDepth 100000 in
theorem redges_c (l : List RC) (h : Heap) (hl : l.length ≤ 100000) (ok : ∀ r ∈ l, r.ok) : ACalls Try.prog 54 [.ro 4 (l.map RC.enc)] h (fun v h' => v = .tup [.ro 1 (ints .i64 (xsF l.reverse)), .ro 1 (ints .i64 (ysF l.reverse))] ∧ h' = h) := by
  refine ACalls.intro Try.func54 rfl Try.ntmps54 Try.results54 (Nat.le_of_ble_eq_true rfl) ?_
  (repeat' (first | (refine iS ?_; refine iMu ?_; refine S.mapU ?_) | refine svz ⟨fun b hq => ?_⟩ | refine sv1 ?_ | refine svs ⟨?_⟩ | refine svu ⟨fun u => ?_⟩ | (refine svg (fun hg => ?_) (fun hg => ?_) <;> try (exfalso; first | omega | contradiction)) | (refine svc (fun hc => ?_) (fun hc => ?_) <;> try (exfalso; first | omega | contradiction)) | refine sv2 ?_ | refine svh (fun hb => ?_) (fun hb => ?_) | refine svb (fun b => ?_) | refine sva ?_ | refine sv3 ?_))
  refine W.loop (J := fun k : Nat => ⟨58, [(6, .val (.int .i64 (k : Int))), (5, .ro 1 (ints .i64 (ysF (l.take k).reverse))), (4, .ro 1 (ints .i64 (xsF (l.take k).reverse))), (0, .ro 4 (l.map RC.enc))], h⟩)
    (Φ := fun k => k ≤ l.length) (μ := fun k => l.length - k) 0 lee (Nat.zero_le _) ?_
  intro k hk
  rcases Nat.lt_or_ge k l.length with hlt | hge
  · obtain ⟨r, hx⟩ : ∃ r, l[k]? = some r := ⟨_, List.getElem?_eq_getElem hlt⟩
    have hr : r ∈ l := List.mem_of_getElem? hx
    have htk := take_rev hx
    have ux := up_xsF (l.take k).reverse
    have uy := up_ysF (l.take k).reverse
    have lx := len_xsF (l.take k).reverse
    have ly := len_ysF (l.take k).reverse
    rw [List.length_reverse, List.length_take] at lx ly
    (repeat' (first | (refine iS ?_; refine iMu ?_; refine S.mapU ?_) | refine svz ⟨fun b hq => ?_⟩ | refine sv1 ?_ | refine svs ⟨?_⟩ | refine svu ⟨fun u => ?_⟩ | (refine svg (fun hg => ?_) (fun hg => ?_) <;> try (exfalso; first | omega | contradiction)) | (refine svc (fun hc => ?_) (fun hc => ?_) <;> try (exfalso; first | omega | contradiction)) | refine sv2 ?_ | refine svh (fun hb => ?_) (fun hb => ?_) | refine svb (fun b => ?_) | refine sva ?_ | refine sv3 ?_))
    refine S.call ?_; refine (rcounts_c r _ (ok r hr)).mono ?_; rintro r h' ⟨rfl, hh⟩; subst hh
    by_cases hc : r.cnt
    · have ex : xsF (l.take (k + 1)).reverse = insS (insS (xsF (l.take k).reverse) r.x) (r.x + r.w) := by rw [htk, xsF, if_pos hc]
      have ey : ysF (l.take (k + 1)).reverse = insS (insS (ysF (l.take k).reverse) r.y) (r.y + r.h) := by rw [htk, ysF, if_pos hc]
      rw [decide_eq_true hc]
      have hcc := hc
      obtain ⟨⟨a1, a2, a3⟩, ⟨a4, a5, a6⟩⟩ := hcc
      generalize xsF (l.take k).reverse = X at *
      generalize ysF (l.take k).reverse = Y at *
      have l1 := len_insS X r.x
      have l2 := len_insS Y r.y
      (repeat' (first | (refine iS ?_; refine iMu ?_; refine S.mapU ?_) | refine svz ⟨fun b hq => ?_⟩ | refine sv1 ?_ | refine svs ⟨?_⟩ | refine svu ⟨fun u => ?_⟩ | (refine svg (fun hg => ?_) (fun hg => ?_) <;> try (exfalso; first | omega | contradiction)) | (refine svc (fun hc => ?_) (fun hc => ?_) <;> try (exfalso; first | omega | contradiction)) | refine sv2 ?_ | refine svh (fun hb => ?_) (fun hb => ?_) | refine svb (fun b => ?_) | refine sva ?_ | refine sv3 ?_))
      refine R2.C (put_c X r.x _ (by omega) ux) ?_
      (repeat' (first | (refine iS ?_; refine iMu ?_; refine S.mapU ?_) | refine svz ⟨fun b hq => ?_⟩ | refine sv1 ?_ | refine svs ⟨?_⟩ | refine svu ⟨fun u => ?_⟩ | (refine svg (fun hg => ?_) (fun hg => ?_) <;> try (exfalso; first | omega | contradiction)) | (refine svc (fun hc => ?_) (fun hc => ?_) <;> try (exfalso; first | omega | contradiction)) | refine sv2 ?_ | refine svh (fun hb => ?_) (fun hb => ?_) | refine svb (fun b => ?_) | refine sva ?_ | refine sv3 ?_))
      refine R2.C (put_c (insS X r.x) (r.x + r.w) _ (by omega) (up_insS ux _)) ?_
      (repeat' (first | (refine iS ?_; refine iMu ?_; refine S.mapU ?_) | refine svz ⟨fun b hq => ?_⟩ | refine sv1 ?_ | refine svs ⟨?_⟩ | refine svu ⟨fun u => ?_⟩ | (refine svg (fun hg => ?_) (fun hg => ?_) <;> try (exfalso; first | omega | contradiction)) | (refine svc (fun hc => ?_) (fun hc => ?_) <;> try (exfalso; first | omega | contradiction)) | refine sv2 ?_ | refine svh (fun hb => ?_) (fun hb => ?_) | refine svb (fun b => ?_) | refine sva ?_ | refine sv3 ?_))
      refine R2.C (put_c Y r.y _ (by omega) uy) ?_
      (repeat' (first | (refine iS ?_; refine iMu ?_; refine S.mapU ?_) | refine svz ⟨fun b hq => ?_⟩ | refine sv1 ?_ | refine svs ⟨?_⟩ | refine svu ⟨fun u => ?_⟩ | (refine svg (fun hg => ?_) (fun hg => ?_) <;> try (exfalso; first | omega | contradiction)) | (refine svc (fun hc => ?_) (fun hc => ?_) <;> try (exfalso; first | omega | contradiction)) | refine sv2 ?_ | refine svh (fun hb => ?_) (fun hb => ?_) | refine svb (fun b => ?_) | refine sva ?_ | refine sv3 ?_))
      refine R2.C (put_c (insS Y r.y) (r.y + r.h) _ (by omega) (up_insS uy _)) ?_
      (repeat' (first | (refine iS ?_; refine iMu ?_; refine S.mapU ?_) | refine svz ⟨fun b hq => ?_⟩ | refine sv1 ?_ | refine svs ⟨?_⟩ | refine svu ⟨fun u => ?_⟩ | (refine svg (fun hg => ?_) (fun hg => ?_) <;> try (exfalso; first | omega | contradiction)) | (refine svc (fun hc => ?_) (fun hc => ?_) <;> try (exfalso; first | omega | contradiction)) | refine sv2 ?_ | refine svh (fun hb => ?_) (fun hb => ?_) | refine svb (fun b => ?_) | refine sva ?_ | refine sv3 ?_))
      exact ⟨k + 1, hlt, by rw [ex, ey]; exact lee, by omega⟩
    · have ex : xsF (l.take (k + 1)).reverse = xsF (l.take k).reverse := by rw [htk, xsF, if_neg hc]
      have ey : ysF (l.take (k + 1)).reverse = ysF (l.take k).reverse := by rw [htk, ysF, if_neg hc]
      rw [decide_eq_false hc]
      (repeat' (first | (refine iS ?_; refine iMu ?_; refine S.mapU ?_) | refine svz ⟨fun b hq => ?_⟩ | refine sv1 ?_ | refine svs ⟨?_⟩ | refine svu ⟨fun u => ?_⟩ | (refine svg (fun hg => ?_) (fun hg => ?_) <;> try (exfalso; first | omega | contradiction)) | (refine svc (fun hc => ?_) (fun hc => ?_) <;> try (exfalso; first | omega | contradiction)) | refine sv2 ?_ | refine svh (fun hb => ?_) (fun hb => ?_) | refine svb (fun b => ?_) | refine sva ?_ | refine sv3 ?_))
      exact ⟨k + 1, hlt, by rw [ex, ey]; exact lee, by omega⟩
  · rw [List.take_of_length_le hge]
    (repeat' (first | (refine iS ?_; refine iMu ?_; refine S.mapU ?_) | refine svz ⟨fun b hq => ?_⟩ | refine sv1 ?_ | refine svs ⟨?_⟩ | refine svu ⟨fun u => ?_⟩ | (refine svg (fun hg => ?_) (fun hg => ?_) <;> try (exfalso; first | omega | contradiction)) | (refine svc (fun hc => ?_) (fun hc => ?_) <;> try (exfalso; first | omega | contradiction)) | refine sv2 ?_ | refine svh (fun hb => ?_) (fun hb => ?_) | refine svb (fun b => ?_) | refine sva ?_ | refine sv3 ?_))
    exact fin_r (h' := _) ⟨rfl, rfl⟩
end Go.Proofs.Ytdknjjgmmmmfjaa
