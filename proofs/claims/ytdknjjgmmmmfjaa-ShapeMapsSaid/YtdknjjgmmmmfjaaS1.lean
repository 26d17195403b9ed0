import Derived.Test.YtdknjjgmmmmfjaaB1
import Derived.Test.YtdknjjgmmmmfjaaU3
import Derived.Sort.AssemblyPlain
namespace Go.Proofs.Ytdknjjgmmmmfjaa
open Go Go.VM Go.Sort
attribute [local irreducible] PurV Pur Step RL W D ACalls Then InBlock Fini
set_option linter.unusedVariables false
set_option linter.unusedSimpArgs false
set_option maxHeartbeats 20000000
def swpL (l : List Int) (i j : Nat) : List Int := (l.set i (l.getD j 0)).set j (l.getD i 0)
theorem swpL_length (l : List Int) (i j : Nat) : (swpL l i j).length = l.length := by simp [swpL]
theorem arr_get (l : List Int) (i : Nat) : (l.toArray)[i]! = l.getD i 0 := by simp [List.getD]
theorem swpL_arr (l : List Int) (i j : Nat) : (swpL l i j).toArray = swp l.toArray i j := by
  unfold swpL swp
  rw [arr_get, arr_get]; simp
theorem getD_at {l : List Int} {i : Nat} (h : i < l.length) : l[i] = l.getD i 0 := by simp [List.getD, h]
theorem ints_set (k : IntKind) (l : List Int) (i : Nat) (x : Int) : (ints k l).set i (.val (.int k x)) = ints k (l.set i x) := by simp [ints, List.map_set]
set_option maxRecDepth 100000 in
theorem rev_c (l : List Int) (a b : Nat) (v : Value) (h : Heap) (hab : a ≤ b) (hb1 : 1 ≤ b) (hb : b ≤ l.length) (hn : l.length ≤ 1000000000000) :
    ACalls Try.prog 100 [.val v, .val (.int .i64 (a : Int)), .val (.int .i64 (b : Int))] (.own v 1 (ints .i64 l) 3 :: h) (fun r h' => r = .tup [] ∧ ∃ l', h' = .own v 1 (ints .i64 l') 3 :: h ∧ l'.toArray = reverseRange l.toArray a b) := by
  refine ACalls.intro Try.func100 rfl Try.ntmps100 Try.results100 (Nat.le_of_ble_eq_true rfl) ?_
  (repeat' (first | refine svz ⟨fun b hq => ?_⟩ | refine sw1 ?_ | refine svs ⟨?_⟩ | refine svu ⟨fun u => ?_⟩ | (refine svg (fun hg => ?_) (fun hg => ?_) <;> try (exfalso; first | omega | contradiction)) | (refine svc (fun hc => ?_) (fun hc => ?_) <;> try (exfalso; first | omega | contradiction)) | refine sv2 ?_ | refine svh (fun hb => ?_) (fun hb => ?_) | refine svb (fun b => ?_) | refine sva ?_ | refine sv3 ?_))
  refine W.loop (J := fun (x : Nat × Nat × List Int) => ⟨32, [(6, .val (.int .i64 (x.1 : Int))), (7, .val (.int .i64 (x.2.1 : Int))), (0, .val v)], .own v 1 (ints .i64 x.2.2) 3 :: h⟩)
    (Φ := fun x => x.1 ≤ l.length ∧ x.2.1 < l.length ∧ x.2.2.length = l.length ∧ reverseLoop x.1 x.2.1 x.2.2.toArray = reverseRange l.toArray a b) (μ := fun x => x.2.1 - x.1) (a, b - 1, l) (by dsimp only; rw [show (((b - 1 : Nat) : Int)) = (b : Int) - 1 from by omega]; exact lee) ⟨by dsimp only; omega, by dsimp only; omega, rfl, rfl⟩ ?_
  rintro ⟨i, j, m⟩ ⟨h1, h2, h3, h4⟩
  dsimp only at h1 h2 h3 h4 ⊢
  (repeat' (first | refine svz ⟨fun b hq => ?_⟩ | refine sw1 ?_ | refine svs ⟨?_⟩ | refine svu ⟨fun u => ?_⟩ | (refine svg (fun hg => ?_) (fun hg => ?_) <;> try (exfalso; first | omega | contradiction)) | (refine svc (fun hc => ?_) (fun hc => ?_) <;> try (exfalso; first | omega | contradiction)) | refine sv2 ?_ | refine svh (fun hb => ?_) (fun hb => ?_) | refine svb (fun b => ?_) | refine sva ?_ | refine sv3 ?_))
  · have h5 : reverseLoop (i + 1) (j - 1) (swpL m i j).toArray = reverseRange l.toArray a b := by
      rw [swpL_arr, ← h4]; conv => rhs; rw [reverseLoop, if_pos (by omega)]
    refine W.dend (.done _) ?_
    have e1 : ((ints .i64 m).set i (.val (.int .i64 m[j]))).set j (.val (.int .i64 m[i])) = ints .i64 (swpL m i j) := by rw [ints_set, ints_set, getD_at, getD_at]; rfl
    have e2 : (((j - 1 : Nat) : Int)) = (j : Int) - 1 := by omega
    have e3 : i + 1 ≤ l.length ∧ j - 1 < l.length ∧ (swpL m i j).length = l.length := ⟨by omega, by omega, by rw [swpL_length]; exact h3⟩
    refine D.T 0 ?_; refine D.T 1 ?_; refine D.T 2 ?_; refine D.T 3 ?_; refine D.T 4 ?_; refine D.T 5 ?_; refine D.V 6 ?_; refine D.T 8 ?_; refine D.T 9 ?_; refine D.V 10 ?_
    refine D.B2 7 11 ?_ ?_
    · (repeat' (first | refine svz ⟨fun b hq => ?_⟩ | refine sw1 ?_ | refine svs ⟨?_⟩ | refine svu ⟨fun u => ?_⟩ | (refine svg (fun hg => ?_) (fun hg => ?_) <;> try (exfalso; first | omega | contradiction)) | (refine svc (fun hc => ?_) (fun hc => ?_) <;> try (exfalso; first | omega | contradiction)) | refine sv2 ?_ | refine svh (fun hb => ?_) (fun hb => ?_) | refine svb (fun b => ?_) | refine sva ?_ | refine sv3 ?_))
      refine D.BL 11 ?_
      (repeat' (first | refine svz ⟨fun b hq => ?_⟩ | refine sw1 ?_ | refine svs ⟨?_⟩ | refine svu ⟨fun u => ?_⟩ | (refine svg (fun hg => ?_) (fun hg => ?_) <;> try (exfalso; first | omega | contradiction)) | (refine svc (fun hc => ?_) (fun hc => ?_) <;> try (exfalso; first | omega | contradiction)) | refine sv2 ?_ | refine svh (fun hb => ?_) (fun hb => ?_) | refine svb (fun b => ?_) | refine sva ?_ | refine sv3 ?_)); refine D.V 12 ?_; refine D.BL 13 ?_; (repeat' (first | refine svz ⟨fun b hq => ?_⟩ | refine sw1 ?_ | refine svs ⟨?_⟩ | refine svu ⟨fun u => ?_⟩ | (refine svg (fun hg => ?_) (fun hg => ?_) <;> try (exfalso; first | omega | contradiction)) | (refine svc (fun hc => ?_) (fun hc => ?_) <;> try (exfalso; first | omega | contradiction)) | refine sv2 ?_ | refine svh (fun hb => ?_) (fun hb => ?_) | refine svb (fun b => ?_) | refine sva ?_ | refine sv3 ?_)); refine D.V 14 ?_; refine D.BL 15 ?_; (repeat' (first | refine svz ⟨fun b hq => ?_⟩ | refine sw1 ?_ | refine svs ⟨?_⟩ | refine svu ⟨fun u => ?_⟩ | (refine svg (fun hg => ?_) (fun hg => ?_) <;> try (exfalso; first | omega | contradiction)) | (refine svc (fun hc => ?_) (fun hc => ?_) <;> try (exfalso; first | omega | contradiction)) | refine sv2 ?_ | refine svh (fun hb => ?_) (fun hb => ?_) | refine svb (fun b => ?_) | refine sva ?_ | refine sv3 ?_)); refine D.E ?_; (repeat' (first | refine svz ⟨fun b hq => ?_⟩ | refine sw1 ?_ | refine svs ⟨?_⟩ | refine svu ⟨fun u => ?_⟩ | (refine svg (fun hg => ?_) (fun hg => ?_) <;> try (exfalso; first | omega | contradiction)) | (refine svc (fun hc => ?_) (fun hc => ?_) <;> try (exfalso; first | omega | contradiction)) | refine sv2 ?_ | refine svh (fun hb => ?_) (fun hb => ?_) | refine svb (fun b => ?_) | refine sva ?_ | refine sv3 ?_)); exact ⟨(i + 1, j - 1, swpL m i j), ⟨e3.1, e3.2.1, e3.2.2, h5⟩, by dsimp only; rw [← e1, e2]; exact lee, by dsimp only; omega⟩
    · (repeat' (first | refine svz ⟨fun b hq => ?_⟩ | refine sw1 ?_ | refine svs ⟨?_⟩ | refine svu ⟨fun u => ?_⟩ | (refine svg (fun hg => ?_) (fun hg => ?_) <;> try (exfalso; first | omega | contradiction)) | (refine svc (fun hc => ?_) (fun hc => ?_) <;> try (exfalso; first | omega | contradiction)) | refine sv2 ?_ | refine svh (fun hb => ?_) (fun hb => ?_) | refine svb (fun b => ?_) | refine sva ?_ | refine sv3 ?_))
      refine D.BL 7 ?_
      (repeat' (first | refine svz ⟨fun b hq => ?_⟩ | refine sw1 ?_ | refine svs ⟨?_⟩ | refine svu ⟨fun u => ?_⟩ | (refine svg (fun hg => ?_) (fun hg => ?_) <;> try (exfalso; first | omega | contradiction)) | (refine svc (fun hc => ?_) (fun hc => ?_) <;> try (exfalso; first | omega | contradiction)) | refine sv2 ?_ | refine svh (fun hb => ?_) (fun hb => ?_) | refine svb (fun b => ?_) | refine sva ?_ | refine sv3 ?_)); refine D.V 12 ?_; refine D.BL 13 ?_; (repeat' (first | refine svz ⟨fun b hq => ?_⟩ | refine sw1 ?_ | refine svs ⟨?_⟩ | refine svu ⟨fun u => ?_⟩ | (refine svg (fun hg => ?_) (fun hg => ?_) <;> try (exfalso; first | omega | contradiction)) | (refine svc (fun hc => ?_) (fun hc => ?_) <;> try (exfalso; first | omega | contradiction)) | refine sv2 ?_ | refine svh (fun hb => ?_) (fun hb => ?_) | refine svb (fun b => ?_) | refine sva ?_ | refine sv3 ?_)); refine D.V 14 ?_; refine D.BL 15 ?_; (repeat' (first | refine svz ⟨fun b hq => ?_⟩ | refine sw1 ?_ | refine svs ⟨?_⟩ | refine svu ⟨fun u => ?_⟩ | (refine svg (fun hg => ?_) (fun hg => ?_) <;> try (exfalso; first | omega | contradiction)) | (refine svc (fun hc => ?_) (fun hc => ?_) <;> try (exfalso; first | omega | contradiction)) | refine sv2 ?_ | refine svh (fun hb => ?_) (fun hb => ?_) | refine svb (fun b => ?_) | refine sva ?_ | refine sv3 ?_)); refine D.E ?_; (repeat' (first | refine svz ⟨fun b hq => ?_⟩ | refine sw1 ?_ | refine svs ⟨?_⟩ | refine svu ⟨fun u => ?_⟩ | (refine svg (fun hg => ?_) (fun hg => ?_) <;> try (exfalso; first | omega | contradiction)) | (refine svc (fun hc => ?_) (fun hc => ?_) <;> try (exfalso; first | omega | contradiction)) | refine sv2 ?_ | refine svh (fun hb => ?_) (fun hb => ?_) | refine svb (fun b => ?_) | refine sva ?_ | refine sv3 ?_)); exact ⟨(i + 1, j - 1, swpL m i j), ⟨e3.1, e3.2.1, e3.2.2, h5⟩, by dsimp only; rw [← e1, e2]; exact lee, by dsimp only; omega⟩
  · exact fin_n (h' := .own v 1 (ints .i64 m) 3 :: h) ⟨rfl, m, rfl, by rw [← h4, reverseLoop, if_neg (by omega)]⟩
end Go.Proofs.Ytdknjjgmmmmfjaa
