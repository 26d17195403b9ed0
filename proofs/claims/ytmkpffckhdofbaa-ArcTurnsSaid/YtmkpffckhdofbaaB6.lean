/- The reference's Edges. No condition. -/
import Derived.Test.YtmkpffckhdofbaaB5
namespace Go.Proofs.Ytmkpffckhdofbaa
open Go Go.VM
attribute [local irreducible] PurV Pur Step RL W D ACalls Then InBlock Fini
set_option linter.unusedVariables false
set_option linter.unusedSimpArgs false
set_option maxHeartbeats 20000000
theorem mem_insS {l : List Int} {n x : Int} : x ∈ insS l n ↔ x = n ∨ x ∈ l := by
  unfold insS
  simp only [List.mem_append, List.mem_cons, List.mem_filter, decide_eq_true_eq]
  constructor
  · rintro (h | h | h)
    · exact .inr h.1
    · exact .inl h
    · exact .inr h.1
  · rintro (h | h)
    · exact .inr (.inl h)
    · by_cases h1 : x < n
      · exact .inl ⟨h, h1⟩
      · by_cases h2 : x = n
        · exact .inr (.inl h2)
        · exact .inr (.inr ⟨h, by omega⟩)
theorem up_insS {l : List Int} (h : Up_ l) (n : Int) : Up_ (insS l n) := by
  unfold insS Up_ at *
  rw [List.pairwise_append, List.pairwise_cons]
  refine ⟨h.filter _, ⟨fun x hx => by simp at hx; exact hx.2, h.filter _⟩, fun a ha b hb => ?_⟩
  simp at ha
  rcases List.mem_cons.1 hb with rfl | hb
  · exact ha.2
  · simp at hb; omega
theorem len_insS (l : List Int) (n : Int) : (insS l n).length ≤ l.length + 1 := by
  unfold insS
  induction l with
  | nil => simp
  | cons x l ih =>
    simp only [List.filter_cons, List.length_append, List.length_cons] at *
    by_cases h1 : x < n
    · have : ¬ n < x := by omega
      simp [h1, this]; omega
    · by_cases h2 : n < x
      · simp [h1, h2]; omega
      · simp [h1, h2]; omega
def xsF : List RC → List Int
  | [] => []
  | r :: l => if r.cnt then insS (insS (xsF l) r.x) (r.x + r.w) else xsF l
def ysF : List RC → List Int
  | [] => []
  | r :: l => if r.cnt then insS (insS (ysF l) r.y) (r.y + r.h) else ysF l
theorem up_xsF : ∀ l, Up_ (xsF l)
  | [] => .nil
  | r :: l => by unfold xsF; split; exact up_insS (up_insS (up_xsF l) _) _; exact up_xsF l
theorem up_ysF : ∀ l, Up_ (ysF l)
  | [] => .nil
  | r :: l => by unfold ysF; split; exact up_insS (up_insS (up_ysF l) _) _; exact up_ysF l
theorem len_xsF : ∀ l, (xsF l).length ≤ 2 * l.length
  | [] => by simp [xsF]
  | r :: l => by
    have := len_xsF l
    unfold xsF
    split
    · have h1 := len_insS (insS (xsF l) r.x) (r.x + r.w)
      have h2 := len_insS (xsF l) r.x
      simp only [List.length_cons]; omega
    · simp only [List.length_cons]; omega
theorem len_ysF : ∀ l, (ysF l).length ≤ 2 * l.length
  | [] => by simp [ysF]
  | r :: l => by
    have := len_ysF l
    unfold ysF
    split
    · have h1 := len_insS (insS (ysF l) r.y) (r.y + r.h)
      have h2 := len_insS (ysF l) r.y
      simp only [List.length_cons]; omega
    · simp only [List.length_cons]; omega
/-- The order in which they come does not count: from the end of what has come. -/
theorem take_rev {l : List RC} {k : Nat} {r : RC} (hx : l[k]? = some r) : (l.take (k + 1)).reverse = r :: (l.take k).reverse := by
  rw [List.take_add_one, hx]; simp
end Go.Proofs.Ytmkpffckhdofbaa
