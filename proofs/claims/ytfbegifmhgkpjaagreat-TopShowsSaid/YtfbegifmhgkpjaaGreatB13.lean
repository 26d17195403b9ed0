import Derived.Test.YtfbegifmhgkpjaaGreatU4
import Derived.Shelf.SlSortCmp.WholeK
import Derived.Shelf.SlSortCmp.NoneTotal
import Derived.Test.YtfbegifmhgkpjaaGreatProg
import Derived.Test.YtfbegifmhgkpjaaGreatB12
/- slices.SortFunc at structs, out of the kit's contract. No condition. -/
namespace Go.VM
open Go Go.Sort Go.Shelf
set_option linter.unusedVariables false
set_option linter.unusedSimpArgs false
set_option linter.unusedSectionVars false
theorem world_grow {w w' : World} (h1 : w'.os = w.os) (h2 : w'.tape = w.tape) (h3 : w'.output = w.output) (h4 : w.drawn ≤ w'.drawn) (h5 : ∀ b, b < w.heap.size → w'.heap[b]? = w.heap[b]?) (h6 : w.heap.size ≤ w'.heap.size) : ∃ q os', w' = grow (w.drewN q) os' := by
  refine ⟨w'.drawn - w.drawn, w'.heap.extract w.heap.size w'.heap.size, ?_⟩
  obtain ⟨hp, tp, dr, os, out⟩ := w
  obtain ⟨hp', tp', dr', os', out'⟩ := w'
  simp only at h1 h2 h3 h4 h5 h6
  subst h1; subst h2; subst h3
  have e1 : hp' = hp ++ hp'.extract hp.size hp'.size := by
    apply Array.ext_getElem?
    intro i
    by_cases hi : i < hp.size
    · rw [Array.getElem?_append_left hi]; exact h5 i hi
    · rw [Array.getElem?_append_right (by omega), Array.getElem?_extract]
      by_cases hi2 : i < hp'.size
      · rw [if_pos (by omega)]; congr 1; omega
      · rw [Array.getElem?_eq_none (by omega), if_neg (by omega)]
  unfold grow World.drewN
  simp only
  rw [← e1, Nat.add_sub_cancel' h4]
theorem acalls_grow {P : Program} {g : Nat} {vs : List AV} {us : List Value} {u : Value} (hc : ACalls P g vs [] (fun r h' => r = .val u ∧ h' = [])) (hr : RelL (fun _ => none) vs us) (w : World) :
    Calls P g us.toArray w (fun e w' => e = .returned u ∧ ∃ q os', w' = grow (w.drewN q) os') := by
  refine (hc (fun _ => none) w us (fun b o h => by cases h) hr ⟨by simp, fun x hx => by cases hx⟩).mono ?_
  rintro e w' ⟨m', v, r, h', rfl, g1, g2, g3, g4, g5, g6, rfl, rfl⟩
  simp only [Rel] at g4
  obtain ⟨rfl, _⟩ := g4
  exact ⟨rfl, world_grow g3.os g3.tape g3.output g3.drawn (fun b hb => g6.frame b hb (by simp)) g3.size⟩
section
variable {α : Type} [Inhabited α] {enc : α → List Value} {k : Nat}
theorem flat_get (hk : ∀ x, (enc x).length = k) (h0 : 0 < k) : ∀ (l : List α) (t : Nat), (l.flatMap enc)[t]? = (l[t / k]?).bind fun x => (enc x)[t % k]?
  | [], t => by simp
  | x :: l, t => by
    rw [List.flatMap_cons]
    by_cases h : t < k
    · rw [List.getElem?_append_left (by rw [hk]; exact h), Nat.div_eq_of_lt h, Nat.mod_eq_of_lt h]; simp
    · rw [List.getElem?_append_right (by rw [hk]; omega), hk, flat_get hk h0 l (t - k)]
      obtain ⟨s, rfl⟩ : ∃ s, t = s + k := ⟨t - k, by omega⟩
      rw [Nat.add_sub_cancel, Nat.add_div_right _ h0, Nat.add_mod_right]
      simp
theorem relE_flat {m : Ghost} (hk : ∀ x, (enc x).length = k) : ∀ (l : List α) (xs : List Value), RelE m k (l.map fun x => .agg ((enc x).map .val)) xs → xs = l.flatMap enc
  | [], xs, h => by simpa [RelE] using h
  | x :: l, xs, h => by
    simp only [List.map_cons, RelE] at h
    obtain ⟨v, r, rfl, h1, h2, h3⟩ := h
    rw [relE_flat hk l r h3, List.flatMap_cons]
    congr 1
    simp only [Rel] at h2
    obtain ⟨cs, rfl, h2⟩ := h2
    show cs.toList = enc x
    have key : ∀ (a : List Value) (b : List Value), RelL m (a.map .val) b → b = a := by
      intro a
      induction a with
      | nil => intro b hb; simpa [RelL] using hb
      | cons y a ih =>
        intro b hb
        simp only [List.map_cons, RelL, Rel] at hb
        obtain ⟨c, r, rfl, ⟨rfl, _⟩, hb⟩ := hb
        rw [ih r hb]
    exact key _ _ h2
theorem flat_relE {m : Ghost} (hk : ∀ x, (enc x).length = k) (h1 : ∀ x, ∀ v ∈ enc x, v.oneCell' = true) : ∀ (l : List α), RelE m k (l.map fun x => .agg ((enc x).map .val)) (l.flatMap enc)
  | [] => by simp [RelE]
  | x :: l => by
    simp only [List.map_cons, RelE, List.flatMap_cons]
    exact ⟨.agg (enc x).toArray, _, rfl, by simpa [Value.cells] using hk x, by simp only [Rel]; exact ⟨_, rfl, relL_vals m _ (h1 x)⟩, flat_relE hk h1 l⟩
theorem flatK_get (hk : ∀ x, (enc x).length = k) (h0 : 0 < k) (d : Array α) {j : Nat} (hj : j < d.size * k) : (d.toList.flatMap enc)[j]? = some ((flatK enc k d)[j]!) := by
  have h2 : j / k < d.size := (Nat.div_lt_iff_lt_mul h0).2 hj
  have h3 : j % k < k := Nat.mod_lt _ h0
  rw [flat_get hk h0, get_flatK _ _ _ _ hj, Array.getElem?_toList, Array.getElem?_eq_getElem h2]
  simp only [Option.bind_some]
  rw [List.getElem?_eq_getElem (by rw [hk]; exact h3), getElem!_pos d _ h2, getElem!_pos _ _ (by rw [hk]; exact h3)]
theorem sortFunc_c {P : Program} {ρ : Ren} (L : Go.Proofs.SlLaysF0.n6 P ρ) (h0 : 0 < k) (aE : ∀ w, (isAgg (ρ.t 24)).run P w = .ok true w) (zE : ∀ w, (Go.sizeOf (ρ.t 24)).run P w = .ok k w) (hk : ∀ x, (enc x).length = k) (h1 : ∀ x, ∀ v ∈ enc x, v.oneCell' = true)
    (cf : α → α → Int) (hO : SWO (Go.Proofs.ltOf cf)) {g : Nat} [hg : TFun P g] (hcmp : ∀ x y : α, ACalls P g [.agg ((enc x).map .val), .agg ((enc y).map .val)] [] (fun r h' => r = .val (.int .i64 (cf x y)) ∧ h' = []))
    {v : Value} {l : List α} {e : Nat} {h : Heap} (hl : l.length < 4611686018427387904) :
    ACalls P (ρ.f 6) [.val v, .val (.func (.func g) #[] #[])] (.own v k (l.map fun x => .agg ((enc x).map .val)) e :: h)
      (fun r h' => r = .tup [] ∧ ∃ l' : List α, l'.Perm l ∧ l'.Pairwise (fun x y => Go.Proofs.ltOf cf y x = false) ∧ h' = .own v k (l'.map fun x => .agg ((enc x).map .val)) e :: h) := by
  intro m w us hm hr hh
  simp only [RelL, Rel] at hr
  obtain ⟨c1, r1, rfl, ⟨rfl, _⟩, c2, r2, rfl, ⟨rfl, _⟩, rfl⟩ := hr
  have hown := hh.2 _ (List.mem_cons_self ..)
  rcases hown.2.own_cases with ⟨A, rfl, hl0⟩ | ⟨b, cap, cur, xs, rfl, hc0, q7, q8, q9, q10, q11, q12, q4, q5, q6, _⟩
  · have : l = [] := by simpa using hl0
    subst this
    refine (Go.Proofs.AnyF.slices_SortFunc_none L A 0 _ w).mono ?_
    rintro e' w' ⟨rfl, rfl⟩
    exact ⟨m, _, _, _, rfl, Gle.refl m, hm, Same.refl _, by simp only [Rel]; exact ⟨#[], rfl, by simp [RelL]⟩, hh, ⟨fun b o h => .inl h, fun _ _ _ => rfl, fun x hx b hb => .inl ⟨x, hx, hb⟩⟩, rfl, [], .refl _, .nil, rfl⟩
  · have hxs := relE_flat hk l xs q4
    rw [List.length_map] at q8 q11 q12
    have hlt : b < w.heap.size := (Array.getElem?_eq_some_iff.1 q7).1
    have hcur : ∀ j, j < l.length * k → cur[j]? = some ((flatK enc k l.toArray)[j]!) := fun j hj => by
      rw [← flatK_get hk h0 l.toArray (by simpa using hj)]
      show cur[j]? = (l.flatMap enc)[j]?
      rw [← hxs, ← q11, List.getElem?_take, if_pos hj, Array.getElem?_toList]
    have hH : HoldsK enc k w b 0 l.toArray := fun j hj => by
      rw [size_flatK] at hj
      refine ⟨?_, ?_⟩
      · rw [Nat.zero_add, cell_of q7, hcur j (by simpa using hj)]; rfl
      · simp [World.frozen?, q7]
    have eg : ∀ args w, (callFunc g args).run P w = .ok (.enter g args) w := fun args w => run_callF args w
    have hcl : Go.Proofs.CmpLays P g #[] enc k cf b 0 l.toArray.size w := fun m os dk _ x y => by
      have := acalls_grow (hcmp x y) (us := [.agg (enc x).toArray, .agg (enc y).toArray]) (by
        simp only [RelL, Rel]
        exact ⟨_, _, rfl, ⟨_, rfl, relL_vals _ _ (h1 x)⟩, _, _, rfl, ⟨_, rfl, relL_vals _ _ (h1 y)⟩, rfl⟩) (Go.Proofs.sortWorldK enc k w b 0 m dk os)
      simpa using this
    have key := Go.Proofs.AnyQ.slices_SortFunc L k aE zE enc hk h1 cf hO g #[] b 0 cap l.toArray w eg hcl hH hlt (by simpa using hl)
    rw [List.length_map]
    refine key.mono ?_
    rintro e' w' ⟨rfl, d', n, os, hp, hs, rfl⟩
    obtain ⟨hds, hd2, hpm⟩ := hp
    have hex : ∀ a : Array α, a.extract 0 a.size = a := fun a => by simp
    have hds' : d'.size = l.length := by simpa using hds
    have hpm' : d'.toList.Perm l := by
      have e1 : l.toArray.size = d'.size := hds.symm
      rw [hex l.toArray, e1, hex d'] at hpm
      simpa using hpm
    have hsz : (Go.Proofs.sortWorldK enc k w b 0 n d' os).heap = (w.heap.modify b (onCells (putCells id 0 (flatK enc k d')))) ++ os := rfl
    have hother : ∀ b', b' < w.heap.size → b' ≠ b → (Go.Proofs.sortWorldK enc k w b 0 n d' os).heap[b']? = w.heap[b']? := fun b' hb' hne => by
      rw [hsz, Array.getElem?_append_left (by simpa using hb'), Array.getElem?_modify, if_neg (fun e => hne e.symm)]
    have hat : (Go.Proofs.sortWorldK enc k w b 0 n d' os).heap[b]? = some (.cells (putCells id 0 (flatK enc k d') cur) e (0, 0)) := by
      rw [hsz, Array.getElem?_append_left (by simpa using hlt), Array.getElem?_modify, if_pos rfl, q7]; rfl
    have hsame : Same w (Go.Proofs.sortWorldK enc k w b 0 n d' os) := ⟨rfl, rfl, rfl, by rw [hsz]; simp, by show w.drawn ≤ w.drawn + n; omega⟩
    have hcs : (putCells id 0 (flatK enc k d') cur).size = cur.size := by simp [putCells]
    have hlk : l.length * k ≤ cur.size := by rw [q10]; exact Nat.mul_le_mul_right _ q8
    have htake : (putCells id 0 (flatK enc k d') cur).toList.take (l.length * k) = d'.toList.flatMap enc := by
      apply List.ext_getElem?
      intro j
      rw [List.getElem?_take]
      by_cases hj : j < l.length * k
      · rw [if_pos hj, Array.getElem?_toList]
        have hj' : j < d'.size * k := by rw [hds']; exact hj
        rw [flatK_get hk h0 d' hj']
        have hjc : j < cur.size := by omega
        simp only [putCells, Array.getElem?_mapIdx, Array.getElem?_eq_getElem hjc, Option.map_some, size_flatK, Nat.zero_le, Nat.zero_add, hj', Nat.sub_zero, true_and, if_true, id]
      · rw [if_neg hj, List.getElem?_eq_none]
        rw [List.length_flatMap]
        have : (List.map (fun a => (enc a).length) d'.toList).sum = d'.size * k := by
          have e1 : (List.map (fun a => (enc a).length) d'.toList) = List.replicate d'.toList.length k := by
            rw [List.eq_replicate_iff]; exact ⟨by simp, fun x hx => by obtain ⟨y, _, rfl⟩ := List.mem_map.1 hx; exact hk y⟩
          rw [e1, List.sum_replicate_nat]; simp
        rw [this, hds']; omega
    have hnew : OERel m (Go.Proofs.sortWorldK enc k w b 0 n d' os) (.own (.slice (some ⟨b, 0, none⟩) l.length cap) k (d'.toList.map fun x => .agg ((enc x).map .val)) e) := by
      have hlen : (d'.toList.map fun x => (AV.agg ((enc x).map .val))).length = l.length := by simp [hds']
      refine oerel_own hlen.symm hc0 hat (by rw [hlen]; exact q8) q9 (by rw [hcs]; exact q10) ?_ ?_
      · rw [hlen, htake]; exact flat_relE hk h1 _
      · rw [hlen, htake]
        intro y hy
        obtain ⟨x, _, hx⟩ := List.mem_flatMap.1 hy
        exact h1 x y hx
    have hblk : (OE.own (.slice (some ⟨b, 0, none⟩) l.length cap) k (l.map fun x => .agg ((enc x).map .val)) e).blk = some b := by
      simp [OE.blk, ownBlk]; omega
    rw [List.length_map] at hh
    refine ⟨m, _, _, _, rfl, Gle.refl m, fun b' o hb' => ?_, hsame, by simp only [Rel]; exact ⟨#[], rfl, by simp [RelL]⟩, hh.up hm .here (fun b' hb' hne => hother b' hb' fun e => hne (by rw [e]; exact hblk)) hnew (fun b' hb' => .inl hb'), ⟨fun b o h => .inl h, fun b' hb' hn => hother b' hb' fun e => hn ⟨_, List.mem_cons_self .., by rw [e]; exact hblk⟩, fun x hx b' hb' => ?_⟩, rfl, d'.toList, hpm', ?_, rfl⟩
    · refine (hother b' (hm.lt hb') fun e => ?_).trans (hm b' o hb')
      have := hown.1 b hblk
      rw [e, this] at hb'; cases hb'
    · rcases List.mem_cons.1 hx with rfl | hx
      · exact .inl ⟨_, List.mem_cons_self .., hb'⟩
      · exact .inl ⟨x, .tail _ hx, hb'⟩
    · rw [List.pairwise_iff_getElem]
      intro i j hi hj hij
      simp only [Array.length_toList] at hi hj
      have := hs i j (Nat.zero_le _) hij (by rw [← hds]; exact hj)
      rw [getElem!_pos d' j hj, getElem!_pos d' i hi] at this
      simpa using this
end
end Go.VM

/-
  DERIVED: THE SHELF's CONTRACTS AT THIS DUMP, IN PLAIN WORDS (tools/lay-plain.mjs out of 'YtfbegifmhgkpjaaGreatShelf.lean', which tools/lay-shelf.mjs wrote): THE SAME DECLARATIONS UNDER THE SAME NAMES: 'import', 'namespace', 'open', 'def', 'theorem' AND NOTHING ELSE: no command of the shelf's: FOR A HAND-IN. Each laying: the table of numbers ('.._ren') and one theorem, a field a fact of the dump's own or the kernel's comparison; each contract: ONE APPLICATION.
-/
namespace Go.Proofs
open Go.Shelf
def Tryz.sortR_ren : Go.Shelf.Ren := ⟨fun | 6 => 69 | 15 => 109 | 14 => 108 | 28 => 136 | 29 => 137 | 20 => 128 | 21 => 129 | 22 => 130 | 23 => 131 | 24 => 132 | 25 => 133 | 26 => 134 | 27 => 135 | 46 => 140 | 47 => 141 | 48 => 142 | 49 => 143 | 50 => 144 | 57 => 154 | n => n, fun | 22 => 60 | 24 => 52 | 25 => 155 | 3 => 3 | 39 => 191 | 0 => 0 | 53 => 56 | 55 => 217 | 4 => 4 | 46 => 210 | 45 => 209 | 50 => 184 | 5 => 5 | 9 => 9 | 66 => 222 | 70 => 226 | 76 => 233 | 77 => 141 | n => n, fun | n => n⟩
theorem Tryz.sortR : Go.Proofs.SlLaysF0.n6 Tryz.prog Tryz.sortR_ren := {
  mixed := by kernel_rfl
  f6 := ⟨Tryz.f69.name, by decide, Tryz.func69.trans (congrArg some (by kernel_rfl))⟩
  f14 := ⟨Tryz.f108.name, by decide, Tryz.func108.trans (congrArg some (by kernel_rfl))⟩
  f15 := Tryz.func109.trans (congrArg some (by kernel_rfl))
  f20 := ⟨Tryz.f128.name, by decide, Tryz.func128.trans (congrArg some (by kernel_rfl))⟩
  f21 := ⟨Tryz.f129.name, by decide, Tryz.func129.trans (congrArg some (by kernel_rfl))⟩
  f22 := ⟨Tryz.f130.name, by decide, Tryz.func130.trans (congrArg some (by kernel_rfl))⟩
  f23 := ⟨Tryz.f131.name, by decide, Tryz.func131.trans (congrArg some (by kernel_rfl))⟩
  f24 := ⟨Tryz.f132.name, by decide, Tryz.func132.trans (congrArg some (by kernel_rfl))⟩
  f25 := ⟨Tryz.f133.name, by decide, Tryz.func133.trans (congrArg some (by kernel_rfl))⟩
  f26 := ⟨Tryz.f134.name, by decide, Tryz.func134.trans (congrArg some (by kernel_rfl))⟩
  f27 := ⟨Tryz.f135.name, by decide, Tryz.func135.trans (congrArg some (by kernel_rfl))⟩
  f28 := Tryz.func136.trans (congrArg some (by kernel_rfl))
  f29 := Tryz.func137.trans (congrArg some (by kernel_rfl))
  f46 := ⟨Tryz.f140.name, by decide, Tryz.func140.trans (congrArg some (by kernel_rfl))⟩
  f47 := Tryz.func141.trans (congrArg some (by kernel_rfl))
  f48 := Tryz.func142.trans (congrArg some (by kernel_rfl))
  f49 := ⟨Tryz.f143.name, by decide, Tryz.func143.trans (congrArg some (by kernel_rfl))⟩
  f50 := ⟨Tryz.f144.name, by decide, Tryz.func144.trans (congrArg some (by kernel_rfl))⟩
  f57 := ⟨Tryz.f154.name, by decide, Tryz.func154.trans (congrArg some (by kernel_rfl))⟩
  t0 := Tryz.underlying0
  a0 := Tryz.isAgg0
  z0 := Tryz.sizeOf0
  v0 := Tryz.zeroValue0
  t3 := Tryz.underlying3
  a3 := Tryz.isAgg3
  z3 := Tryz.sizeOf3
  v3 := Tryz.zeroValue3
  t4 := Tryz.underlying4
  a4 := Tryz.isAgg4
  z4 := Tryz.sizeOf4
  v4 := Tryz.zeroValue4
  t5 := Tryz.underlying5
  a5 := Tryz.isAgg5
  z5 := Tryz.sizeOf5
  v5 := Tryz.zeroValue5
  t9 := Tryz.underlying9
  a9 := Tryz.isAgg9
  z9 := Tryz.sizeOf9
  v9 := Tryz.zeroValue9
  t22 := Tryz.underlying60
  a22 := Tryz.isAgg60
  z22 := Tryz.sizeOf60
  v22 := Tryz.zeroValue60
  t25 := Tryz.underlying155
  a25 := Tryz.isAgg155
  z25 := Tryz.sizeOf155
  v25 := Tryz.zeroValue155
  t39 := Tryz.underlying191
  a39 := Tryz.isAgg191
  z39 := Tryz.sizeOf191
  v39 := Tryz.zeroValue191
  t45 := Tryz.underlying209
  a45 := Tryz.isAgg209
  z45 := Tryz.sizeOf209
  v45 := Tryz.zeroValue209
  t46 := Tryz.underlying210
  a46 := Tryz.isAgg210
  z46 := Tryz.sizeOf210
  v46 := Tryz.zeroValue210
  t50 := Tryz.underlying184
  a50 := Tryz.isAgg184
  z50 := Tryz.sizeOf184
  v50 := Tryz.zeroValue184
  t53 := Tryz.underlying56
  a53 := Tryz.isAgg56
  z53 := Tryz.sizeOf56
  v53 := Tryz.zeroValue56
  t55 := Tryz.underlying217
  a55 := Tryz.isAgg217
  z55 := Tryz.sizeOf217
  v55 := Tryz.zeroValue217
  t66 := Tryz.underlying222
  a66 := Tryz.isAgg222
  z66 := Tryz.sizeOf222
  v66 := Tryz.zeroValue222
  t70 := Tryz.underlying226
  a70 := Tryz.isAgg226
  z70 := Tryz.sizeOf226
  v70 := Tryz.zeroValue226
  t76 := Tryz.underlying233
  a76 := Tryz.isAgg233
  z76 := Tryz.sizeOf233
  v76 := Tryz.zeroValue233
  t77 := Tryz.underlying141
  a77 := Tryz.isAgg141
  z77 := Tryz.sizeOf141
  v77 := Tryz.zeroValue141 }
end Go.Proofs

/- slices.SortFunc on rectangles, by band's two orders. No condition. -/
namespace Go.Proofs.YtfbegifmhgkpjaaGreat
open Go Go.VM Go.Sort
set_option linter.unusedVariables false
set_option linter.unusedSimpArgs false
instance : Inhabited RC := ⟨⟨0, 0, 0, 0⟩⟩
def RC.vals (r : RC) : List Value := [.int .i64 r.x, .int .i64 r.y, .int .i64 r.w, .int .i64 r.h]
theorem cmpI_lt (a b : Int) : cmpI a b < 0 ↔ a < b := by unfold cmpI; split; omega; split <;> omega
theorem cmpI_0 (a b : Int) : cmpI a b = 0 ↔ a = b := by unfold cmpI; split; omega; split <;> omega
theorem cmpYX_lt (a b : RC) : cmpYX a b < 0 ↔ a.y < b.y ∨ a.y = b.y ∧ a.x < b.x := by
  unfold cmpYX orI
  have h1 := cmpI_lt a.y b.y
  have h2 := cmpI_0 a.y b.y
  have h3 := cmpI_lt a.x b.x
  split <;> omega
theorem swoYX : SWO (Go.Proofs.ltOf cmpYX) where
  irrefl x := by unfold Go.Proofs.ltOf; rw [decide_eq_false]; rw [cmpYX_lt]; omega
  trans x y z h1 h2 := by unfold Go.Proofs.ltOf at *; rw [decide_eq_true_iff, cmpYX_lt] at *; omega
  ntrans x y z h1 h2 := by unfold Go.Proofs.ltOf at *; rw [decide_eq_false_iff_not, cmpYX_lt] at *; omega
def cmpX (a b : RC) : Int := cmpI a.x b.x
theorem swoX : SWO (Go.Proofs.ltOf cmpX) where
  irrefl x := by unfold Go.Proofs.ltOf cmpX; rw [decide_eq_false]; rw [cmpI_lt]; omega
  trans x y z h1 h2 := by unfold Go.Proofs.ltOf cmpX at *; rw [decide_eq_true_iff, cmpI_lt] at *; omega
  ntrans x y z h1 h2 := by unfold Go.Proofs.ltOf cmpX at *; rw [decide_eq_false_iff_not, cmpI_lt] at *; omega
theorem rc_agg (w : World) : (isAgg 52).run Tryz.prog w = .ok true w := Go.VM.run_isAgg (TVal.h (t := 52)) w
theorem rc_size (w : World) : (Go.sizeOf 52).run Tryz.prog w = .ok 4 w := Go.VM.run_sizeOf (TVal.h (t := 52)) w
theorem vals_one (r : RC) : ∀ v ∈ r.vals, v.oneCell' = true := by
  intro v hv
  unfold RC.vals at hv
  simp only [List.mem_cons, List.not_mem_nil, or_false] at hv
  rcases hv with rfl | rfl | rfl | rfl <;> rfl
instance : TFun Tryz.prog 70 := ⟨by kernel_rfl⟩
instance : TFun Tryz.prog 76 := ⟨by kernel_rfl⟩
theorem sortY_c (l : List RC) (v : Value) (e : Nat) (h : Heap) (hl : l.length < 4611686018427387904) :
    ACalls Tryz.prog 69 [.val v, .val (.func (.func 70) #[] #[])] (.own v 4 (l.map RC.enc) e :: h) (fun r h' => r = .tup [] ∧ ∃ l' : List RC, l'.Perm l ∧ l'.Pairwise (fun a b => a.y ≤ b.y) ∧ h' = .own v 4 (l'.map RC.enc) e :: h) := by
  refine (sortFunc_c (enc := RC.vals) Tryz.sortR (by omega) rc_agg rc_size (fun _ => rfl) vals_one cmpYX swoYX (fun a b => cmp1_c a b []) hl).mono ?_
  rintro r h' ⟨rfl, l', h1, h2, rfl⟩
  exact ⟨rfl, l', h1, h2.imp fun {a b} h => by unfold Go.Proofs.ltOf at h; rw [decide_eq_false_iff_not, cmpYX_lt] at h; omega, rfl⟩
theorem sortX_c (l : List RC) (v : Value) (e : Nat) (h : Heap) (hl : l.length < 4611686018427387904) :
    ACalls Tryz.prog 69 [.val v, .val (.func (.func 76) #[] #[])] (.own v 4 (l.map RC.enc) e :: h) (fun r h' => r = .tup [] ∧ ∃ l' : List RC, l'.Perm l ∧ l'.Pairwise (fun a b => a.x ≤ b.x) ∧ h' = .own v 4 (l'.map RC.enc) e :: h) := by
  refine (sortFunc_c (enc := RC.vals) Tryz.sortR (by omega) rc_agg rc_size (fun _ => rfl) vals_one cmpX swoX (fun a b => cmp3_c a b []) hl).mono ?_
  rintro r h' ⟨rfl, l', h1, h2, rfl⟩
  exact ⟨rfl, l', h1, h2.imp fun {a b} h => by unfold Go.Proofs.ltOf cmpX at h; rw [decide_eq_false_iff_not, cmpI_lt] at h; omega, rfl⟩
end Go.Proofs.YtfbegifmhgkpjaaGreat
