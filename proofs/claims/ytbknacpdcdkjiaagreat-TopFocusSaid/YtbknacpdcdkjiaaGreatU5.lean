import Derived.Test.YtbknacpdcdkjiaaGreatU4
import Derived.Shelf.SlSortCmp.WholeK
import Derived.Shelf.SlSortCmp.NoneTotal
/- slices.SortFunc at structs, out of the kit's contract. No condition. -/
namespace Go.VM
open Go Go.Sort Go.Shelf
set_option linter.unusedVariables false
set_option linter.unusedSimpArgs false
set_option linter.unusedSectionVars false
theorem world_grow {w w' : World} (h1 : w'.os = w.os) (h2 : w'.tape = w.tape) (h3 : w'.output = w.output) (h4 : w.drawn ≤ w'.drawn) (h5 : ∀ b, b < w.heap.size → w'.heap[b]? = w.heap[b]?) (h6 : w.heap.size ≤ w'.heap.size) : ∃ q os', w' = grow (w.drewN q) os' := by
  refine ⟨w'.drawn - w.drawn, w'.heap.extract w.heap.size w'.heap.size, ?_⟩
  obtain ⟨hp, tp, dr, os, out⟩ := w
  obtain ⟨hp', tp', dr', os', out'⟩ := w'
  simp only at h1 h2 h3 h4 h5 h6
  subst h1; subst h2; subst h3
  have e1 : hp' = hp ++ hp'.extract hp.size hp'.size := by
    apply Array.ext_getElem?
    intro i
    by_cases hi : i < hp.size
    · rw [Array.getElem?_append_left hi]; exact h5 i hi
    · rw [Array.getElem?_append_right (by omega), Array.getElem?_extract]
      by_cases hi2 : i < hp'.size
      · rw [if_pos (by omega)]; congr 1; omega
      · rw [Array.getElem?_eq_none (by omega), if_neg (by omega)]
  unfold grow World.drewN
  simp only
  rw [← e1, Nat.add_sub_cancel' h4]
theorem acalls_grow {P : Program} {g : Nat} {vs : List AV} {us : List Value} {u : Value} (hc : ACalls P g vs [] (fun r h' => r = .val u ∧ h' = [])) (hr : RelL (fun _ => none) vs us) (w : World) :
    Calls P g us.toArray w (fun e w' => e = .returned u ∧ ∃ q os', w' = grow (w.drewN q) os') := by
  refine (hc (fun _ => none) w us (fun b o h => by cases h) hr ⟨by simp, fun x hx => by cases hx⟩).mono ?_
  rintro e w' ⟨m', v, r, h', rfl, g1, g2, g3, g4, g5, g6, rfl, rfl⟩
  simp only [Rel] at g4
  obtain ⟨rfl, _⟩ := g4
  exact ⟨rfl, world_grow g3.os g3.tape g3.output g3.drawn (fun b hb => g6.frame b hb (by simp)) g3.size⟩
theorem relL_vals_eq {m : Ghost} : ∀ (a b : List Value), RelL m (a.map .val) b → b = a
  | [], b, hb => by simpa [RelL] using hb
  | y :: a, b, hb => by
    simp only [List.map_cons, RelL, Rel] at hb
    obtain ⟨c, r, rfl, ⟨rfl, _⟩, hb⟩ := hb
    rw [relL_vals_eq a r hb]
section
variable {α : Type} [Inhabited α] {enc : α → List Value} {k : Nat}
theorem flat_get (hk : ∀ x, (enc x).length = k) (h0 : 0 < k) : ∀ (l : List α) (t : Nat), (l.flatMap enc)[t]? = (l[t / k]?).bind fun x => (enc x)[t % k]?
  | [], t => by simp
  | x :: l, t => by
    rw [List.flatMap_cons]
    by_cases h : t < k
    · rw [List.getElem?_append_left (by rw [hk]; exact h), Nat.div_eq_of_lt h, Nat.mod_eq_of_lt h]; simp
    · rw [List.getElem?_append_right (by rw [hk]; omega), hk, flat_get hk h0 l (t - k)]
      obtain ⟨s, rfl⟩ : ∃ s, t = s + k := ⟨t - k, by omega⟩
      rw [Nat.add_sub_cancel, Nat.add_div_right _ h0, Nat.add_mod_right]
      simp
theorem relE_flat {m : Ghost} (hk : ∀ x, (enc x).length = k) : ∀ (l : List α) (xs : List Value), RelE m k (l.map fun x => .agg ((enc x).map .val)) xs → xs = l.flatMap enc
  | [], xs, h => by simpa [RelE] using h
  | x :: l, xs, h => by
    simp only [List.map_cons, RelE] at h
    obtain ⟨v, r, rfl, h1, h2, h3⟩ := h
    rw [relE_flat hk l r h3, List.flatMap_cons]
    congr 1
    simp only [Rel] at h2
    obtain ⟨cs, rfl, h2⟩ := h2
    show cs.toList = enc x
    exact relL_vals_eq _ _ h2
theorem flat_relE {m : Ghost} (hk : ∀ x, (enc x).length = k) (h1 : ∀ x, ∀ v ∈ enc x, v.oneCell' = true) : ∀ (l : List α), RelE m k (l.map fun x => .agg ((enc x).map .val)) (l.flatMap enc)
  | [] => by simp [RelE]
  | x :: l => by
    simp only [List.map_cons, RelE, List.flatMap_cons]
    exact ⟨.agg (enc x).toArray, _, rfl, by simpa [Value.cells] using hk x, by simp only [Rel]; exact ⟨_, rfl, relL_vals m _ (h1 x)⟩, flat_relE hk h1 l⟩
theorem flatK_get (hk : ∀ x, (enc x).length = k) (h0 : 0 < k) (d : Array α) {j : Nat} (hj : j < d.size * k) : (d.toList.flatMap enc)[j]? = some ((flatK enc k d)[j]!) := by
  have h2 : j / k < d.size := (Nat.div_lt_iff_lt_mul h0).2 hj
  have h3 : j % k < k := Nat.mod_lt _ h0
  rw [flat_get hk h0, get_flatK _ _ _ _ hj, Array.getElem?_toList, Array.getElem?_eq_getElem h2]
  simp only [Option.bind_some]
  rw [List.getElem?_eq_getElem (by rw [hk]; exact h3), getElem!_pos d _ h2, getElem!_pos _ _ (by rw [hk]; exact h3)]
theorem sort_gen {P : Program} {f : Nat} {ex : List Value} {Q : List α → Prop} (h0 : 0 < k) {E : α → AV} (hk : ∀ x, (enc x).length = k) (h1 : ∀ x, ∀ v ∈ enc x, v.oneCell' = true) (hE1 : ∀ m (l : List α) xs, RelE m k (l.map E) xs → xs = l.flatMap enc) (hE2 : ∀ m (l : List α), RelE m k (l.map E) (l.flatMap enc))
    {v : Value} {l : List α} {e : Nat} {h : Heap}
    (hn : l = [] → ∀ A w, Calls P f (Value.slice A 0 0 :: ex).toArray w (fun e' w' => e' = .returned (.tuple #[]) ∧ w' = w))
    (hq : l = [] → Q [])
    (hs : ∀ b cap w, b < w.heap.size → HoldsK enc k w b 0 l.toArray → Calls P f (Value.slice (some ⟨b, 0, none⟩) l.length cap :: ex).toArray w (fun e' w' => e' = .returned (.tuple #[]) ∧ ∃ d' n os, d'.size = l.length ∧ Q d'.toList ∧ w' = Go.Proofs.sortWorldK enc k w b 0 n d' os)) :
    ACalls P f (.val v :: ex.map .val) (.own v k (l.map E) e :: h)
      (fun r h' => r = .tup [] ∧ ∃ l' : List α, Q l' ∧ h' = .own v k (l'.map E) e :: h) := by
  intro m w us hm hr hh
  simp only [RelL, Rel] at hr
  obtain ⟨c1, r1, rfl, ⟨rfl, _⟩, hr⟩ := hr
  have := relL_vals_eq _ _ hr
  subst this
  have hown := hh.2 _ (List.mem_cons_self ..)
  rcases hown.2.own_cases with ⟨A, rfl, hl0⟩ | ⟨b, cap, cur, xs, rfl, hc0, q7, q8, q9, q10, q11, q12, q4, q5, q6, _⟩
  · have : l = [] := by simpa using hl0
    subst this
    refine (hn rfl A w).mono ?_
    rintro e' w' ⟨rfl, rfl⟩
    exact ⟨m, _, _, _, rfl, Gle.refl m, hm, Same.refl _, by simp only [Rel]; exact ⟨#[], rfl, by simp [RelL]⟩, hh, ⟨fun b o h => .inl h, fun _ _ _ => rfl, fun x hx b hb => .inl ⟨x, hx, hb⟩⟩, rfl, [], hq rfl, rfl⟩
  · have hxs := hE1 _ l xs q4
    rw [List.length_map] at q8 q11 q12
    have hlt : b < w.heap.size := (Array.getElem?_eq_some_iff.1 q7).1
    have hcur : ∀ j, j < l.length * k → cur[j]? = some ((flatK enc k l.toArray)[j]!) := fun j hj => by
      rw [← flatK_get hk h0 l.toArray (by simpa using hj)]
      show cur[j]? = (l.flatMap enc)[j]?
      rw [← hxs, ← q11, List.getElem?_take, if_pos hj, Array.getElem?_toList]
    have hH : HoldsK enc k w b 0 l.toArray := fun j hj => by
      rw [size_flatK] at hj
      refine ⟨?_, ?_⟩
      · rw [Nat.zero_add, cell_of q7, hcur j (by simpa using hj)]; rfl
      · simp [World.frozen?, q7]
    have key := hs b cap w hlt hH
    rw [List.length_map]
    refine key.mono ?_
    rintro e' w' ⟨rfl, d', n, os, hds', hQ, rfl⟩
    have hsz : (Go.Proofs.sortWorldK enc k w b 0 n d' os).heap = (w.heap.modify b (onCells (putCells id 0 (flatK enc k d')))) ++ os := rfl
    have hother : ∀ b', b' < w.heap.size → b' ≠ b → (Go.Proofs.sortWorldK enc k w b 0 n d' os).heap[b']? = w.heap[b']? := fun b' hb' hne => by
      rw [hsz, Array.getElem?_append_left (by simpa using hb'), Array.getElem?_modify, if_neg (fun e => hne e.symm)]
    have hat : (Go.Proofs.sortWorldK enc k w b 0 n d' os).heap[b]? = some (.cells (putCells id 0 (flatK enc k d') cur) e (0, 0)) := by
      rw [hsz, Array.getElem?_append_left (by simpa using hlt), Array.getElem?_modify, if_pos rfl, q7]; rfl
    have hsame : Same w (Go.Proofs.sortWorldK enc k w b 0 n d' os) := ⟨rfl, rfl, rfl, by rw [hsz]; simp, by show w.drawn ≤ w.drawn + n; omega⟩
    have hcs : (putCells id 0 (flatK enc k d') cur).size = cur.size := by simp [putCells]
    have hlk : l.length * k ≤ cur.size := by rw [q10]; exact Nat.mul_le_mul_right _ q8
    have htake : (putCells id 0 (flatK enc k d') cur).toList.take (l.length * k) = d'.toList.flatMap enc := by
      apply List.ext_getElem?
      intro j
      rw [List.getElem?_take]
      by_cases hj : j < l.length * k
      · rw [if_pos hj, Array.getElem?_toList]
        have hj' : j < d'.size * k := by rw [hds']; exact hj
        rw [flatK_get hk h0 d' hj']
        have hjc : j < cur.size := by omega
        simp only [putCells, Array.getElem?_mapIdx, Array.getElem?_eq_getElem hjc, Option.map_some, size_flatK, Nat.zero_le, Nat.zero_add, hj', Nat.sub_zero, true_and, if_true, id]
      · rw [if_neg hj, List.getElem?_eq_none]
        rw [List.length_flatMap]
        have : (List.map (fun a => (enc a).length) d'.toList).sum = d'.size * k := by
          have e1 : (List.map (fun a => (enc a).length) d'.toList) = List.replicate d'.toList.length k := by
            rw [List.eq_replicate_iff]; exact ⟨by simp, fun x hx => by obtain ⟨y, _, rfl⟩ := List.mem_map.1 hx; exact hk y⟩
          rw [e1, List.sum_replicate_nat]; simp
        rw [this, hds']; omega
    have hnew : OERel m (Go.Proofs.sortWorldK enc k w b 0 n d' os) (.own (.slice (some ⟨b, 0, none⟩) l.length cap) k (d'.toList.map E) e) := by
      have hlen : (d'.toList.map E).length = l.length := by simp [hds']
      refine oerel_own hlen.symm hc0 hat (by rw [hlen]; exact q8) q9 (by rw [hcs]; exact q10) ?_ ?_
      · rw [hlen, htake]; exact hE2 _ _
      · rw [hlen, htake]
        intro y hy
        obtain ⟨x, _, hx⟩ := List.mem_flatMap.1 hy
        exact h1 x y hx
    have hblk : (OE.own (.slice (some ⟨b, 0, none⟩) l.length cap) k (l.map E) e).blk = some b := by
      simp [OE.blk, ownBlk]; omega
    rw [List.length_map] at hh
    refine ⟨m, _, _, _, rfl, Gle.refl m, fun b' o hb' => ?_, hsame, by simp only [Rel]; exact ⟨#[], rfl, by simp [RelL]⟩, hh.up hm .here (fun b' hb' hne => hother b' hb' fun e => hne (by rw [e]; exact hblk)) hnew (fun b' hb' => .inl hb'), ⟨fun b o h => .inl h, fun b' hb' hn => hother b' hb' fun e => hn ⟨_, List.mem_cons_self .., by rw [e]; exact hblk⟩, fun x hx b' hb' => ?_⟩, rfl, d'.toList, hQ, rfl⟩
    · refine (hother b' (hm.lt hb') fun e => ?_).trans (hm b' o hb')
      have := hown.1 b hblk
      rw [e, this] at hb'; cases hb'
    · rcases List.mem_cons.1 hx with rfl | hx
      · exact .inl ⟨_, List.mem_cons_self .., hb'⟩
      · exact .inl ⟨x, .tail _ hx, hb'⟩
theorem sortFunc_c {P : Program} {ρ : Ren} (L : Go.Proofs.SlLaysF0.n6 P ρ) (h0 : 0 < k) (aE : ∀ w, (isAgg (ρ.t 24)).run P w = .ok true w) (zE : ∀ w, (Go.sizeOf (ρ.t 24)).run P w = .ok k w) (hk : ∀ x, (enc x).length = k) (h1 : ∀ x, ∀ v ∈ enc x, v.oneCell' = true)
    (cf : α → α → Int) (hO : SWO (Go.Proofs.ltOf cf)) {g : Nat} [hg : TFun P g] (hcmp : ∀ x y : α, ACalls P g [.agg ((enc x).map .val), .agg ((enc y).map .val)] [] (fun r h' => r = .val (.int .i64 (cf x y)) ∧ h' = []))
    {v : Value} {l : List α} {e : Nat} {h : Heap} (hl : l.length < 4611686018427387904) :
    ACalls P (ρ.f 6) [.val v, .val (.func (.func g) #[] #[])] (.own v k (l.map fun x => .agg ((enc x).map .val)) e :: h)
      (fun r h' => r = .tup [] ∧ ∃ l' : List α, l'.Perm l ∧ l'.Pairwise (fun x y => Go.Proofs.ltOf cf y x = false) ∧ h' = .own v k (l'.map fun x => .agg ((enc x).map .val)) e :: h) := by
  refine (sort_gen (E := fun x => .agg ((enc x).map .val)) (ex := [.func (.func g) #[] #[]]) (Q := fun l' => l'.Perm l ∧ l'.Pairwise (fun x y => Go.Proofs.ltOf cf y x = false)) h0 hk h1 (fun _ => relE_flat hk) (fun _ => flat_relE hk h1) (fun _ A w => Go.Proofs.AnyF.slices_SortFunc_none L A 0 _ w) (by rintro rfl; exact ⟨.refl _, .nil⟩) fun b cap w hlt hH => ?_).mono (by rintro r h' ⟨rfl, l', ⟨q1, q2⟩, rfl⟩; exact ⟨rfl, l', q1, q2, rfl⟩)
  have eg : ∀ args w, (callFunc g args).run P w = .ok (.enter g args) w := fun args w => run_callF args w
  have hcl : Go.Proofs.CmpLays P g #[] enc k cf b 0 l.toArray.size w := fun m os dk _ x y => by
    have := acalls_grow (hcmp x y) (us := [.agg (enc x).toArray, .agg (enc y).toArray]) (by
      simp only [RelL, Rel]
      exact ⟨_, _, rfl, ⟨_, rfl, relL_vals _ _ (h1 x)⟩, _, _, rfl, ⟨_, rfl, relL_vals _ _ (h1 y)⟩, rfl⟩) (Go.Proofs.sortWorldK enc k w b 0 m dk os)
    simpa using this
  refine (Go.Proofs.AnyQ.slices_SortFunc L k aE zE enc hk h1 cf hO g #[] b 0 cap l.toArray w eg hcl hH hlt (by simpa using hl)).mono ?_
  rintro e' w' ⟨rfl, d', n, os, hp, hs, rfl⟩
  obtain ⟨hds, hd2, hpm⟩ := hp
  have hex : ∀ a : Array α, a.extract 0 a.size = a := fun a => by simp
  have hds' : d'.size = l.length := by simpa using hds
  have hpm' : d'.toList.Perm l := by
    have e1 : l.toArray.size = d'.size := hds.symm
    rw [hex l.toArray, e1, hex d'] at hpm
    simpa using hpm
  refine ⟨rfl, d', n, os, hds', ⟨hpm', ?_⟩, rfl⟩
  rw [List.pairwise_iff_getElem]
  intro i j hi hj hij
  simp only [Array.length_toList] at hi hj
  have := hs i j (Nat.zero_le _) hij (by rw [← hds]; exact hj)
  rw [getElem!_pos d' j hj, getElem!_pos d' i hi] at this
  simpa using this
end
end Go.VM
