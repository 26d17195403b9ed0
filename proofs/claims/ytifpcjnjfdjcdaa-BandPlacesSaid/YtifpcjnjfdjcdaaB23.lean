/- BandPlaces. No condition. -/
import Derived.Test.YtifpcjnjfdjcdaaB18
import Derived.Test.YtifpcjnjfdjcdaaG4
namespace Go.VM
open Go
set_option linter.unusedVariables false
set_option linter.unusedSimpArgs false
section
variable {P : Program} {tm : List (Nat × AV)} {h : Heap} {d : Option Nat} {x y : Operand} {ty : TypeId} {pos : String} {af : Array Edge} {gd : Option (Nat × Bool)}
theorem pur_index_arr_rp {xt nn e kk j o q : Nat} {g : Bool} {l : List AV} {kd : IntKind} {i : Int} [ha : TArr P xt nn e 1 g] (hx : evalA tm x = some (.rp kk l j o)) (hy : evalA tm y = some (.val (.int kd i))) (hi : i = (q : Int)) (hq : q < nn) :
    PurV P ⟨d, .indexAddr xt x y, ty, pos, af, gd⟩ tm h (.rp kk l j (o + q)) := fun m a w0 ht g1 g2 => by
  have hx := ht.eval hx
  simp only [Rel] at hx
  obtain ⟨b, o', hx, hj, hw⟩ := hx
  refine ⟨.pointer (some ⟨b, o' + (j * kk + (o + q)), none⟩), by simp only [Rel]; exact ⟨b, o', rfl, hj, hw⟩, fun w => ?_⟩
  subst hi
  have : (q : Int) < (nn : Int) := by omega
  simp [execOp, hx, eval_val ht hy, Instr.indexAt, asIntOf, run_underlying ha.h, Instr.sureAddr, hq, run_sizeOf ha.v, add_mk', Nat.add_assoc]
end
end Go.VM
namespace Go.Proofs.Ytifpcjnjfdjcdaa
open Go Go.VM
attribute [local irreducible] PurV Pur Step RL W D ACalls Then InBlock Fini
set_option linter.unusedVariables false
set_option linter.unusedSimpArgs false
set_option maxHeartbeats 20000000
structure Q4 where
  (a b c d : Int)
def Q4.enc (q : Q4) : AV := .agg [.val (.int .u8 q.a), .val (.int .u8 q.b), .val (.int .u8 q.c), .val (.int .u8 q.d)]
def Q4.ok (q : Q4) : Prop := (0 ≤ q.a ∧ q.a ≤ 255) ∧ (0 ≤ q.b ∧ q.b ≤ 255) ∧ (0 ≤ q.c ∧ q.c ≤ 255) ∧ (0 ≤ q.d ∧ q.d ≤ 255)
def Q4.rc (q : Q4) : RC := ⟨q.a % 20, q.b % 20, q.c % (21 - q.a % 20), q.d % (21 - q.b % 20)⟩
theorem rc_in (q : Q4) : (0 ≤ q.rc.x ∧ q.rc.x ≤ 19 ∧ 0 ≤ q.rc.w ∧ q.rc.x + q.rc.w ≤ 20) ∧ 0 ≤ q.rc.y ∧ q.rc.y ≤ 19 ∧ 0 ≤ q.rc.h ∧ q.rc.y + q.rc.h ≤ 20 := by
  have h1 := Int.emod_nonneg q.c (show 21 - q.a % 20 ≠ 0 by omega)
  have h2 := Int.emod_lt_of_pos q.c (show 0 < 21 - q.a % 20 by omega)
  have h3 := Int.emod_nonneg q.d (show 21 - q.b % 20 ≠ 0 by omega)
  have h4 := Int.emod_lt_of_pos q.d (show 0 < 21 - q.b % 20 by omega)
  unfold Q4.rc
  simp only
  omega
theorem rc_ok4 (q : Q4) : q.rc.ok := by
  have := rc_in q
  exact ⟨⟨by omega, by omega⟩, ⟨by omega, by omega⟩, ⟨by omega, by omega⟩, ⟨by omega, by omega⟩⟩
theorem hasF_in {L : List Q4} {x y : Int} (h : hasF (L.map Q4.rc) x y = true) : 0 ≤ x ∧ x < 20 ∧ 0 ≤ y ∧ y < 20 := by
  obtain ⟨r, hr, _, h1, h2, h3, h4⟩ := hasF_iff.1 h
  obtain ⟨q, _, rfl⟩ := List.mem_map.1 hr
  have := rc_in q
  omega
theorem area_places (L : List Q4) : areaF (ofF (L.map Q4.rc)) = grid 1 22 (hasF (L.map Q4.rc)) := by
  rw [areaF_grid (K := 1) (n := 22) (ofF_cnt _) (ofF_fol _)]
  · exact grid_congr fun x y => has_ofF _ x y
  · intro r hr
    obtain ⟨⟨a1, a2, a3⟩, ⟨a4, a5, a6⟩⟩ := ofF_cnt _ r hr
    have h1 : hasF (L.map Q4.rc) r.x r.y = true := by
      rw [← has_ofF]; exact hasR_iff.2 ⟨r, hr, by unfold RC.has; omega⟩
    have h2 : hasF (L.map Q4.rc) (r.x + r.w - 1) (r.y + r.h - 1) = true := by
      rw [← has_ofF]; exact hasR_iff.2 ⟨r, hr, by unfold RC.has; omega⟩
    have h1 := hasF_in h1
    have h2 := hasF_in h2
    omega
theorem ind_in (b : Bool) : 0 ≤ ind b ∧ ind b ≤ 1 := by unfold ind; split <;> omega
theorem sumI_in {f : Nat → Int} {c : Int} : ∀ {n : Nat}, (∀ i, i < n → 0 ≤ f i ∧ f i ≤ c) → 0 ≤ sumI n f ∧ sumI n f ≤ n * c
  | 0, _ => by simp [sumI]
  | n + 1, h => by
    have h1 := sumI_in (n := n) fun i hi => h i (by omega)
    have h2 := h n (by omega)
    show 0 ≤ sumI n f + f n ∧ sumI n f + f n ≤ _
    rw [Int.natCast_add, Int.add_mul]
    simp only [Int.natCast_one, Int.one_mul]
    omega
set_option maxRecDepth 100000 in
theorem places_c (l : List Q4) (h : Heap) (ok : ∀ q ∈ l, q.ok) : ACalls Try.prog 6 [.ro 4 (l.map Q4.enc)] h (fun r h' => r = .val (.bool true)) := by
  refine ACalls.intro Try.func6 rfl Try.ntmps6 Try.results6 (Nat.le_of_ble_eq_true rfl) ?_
  refine W.len 0 rfl (fun hlen => ?_); simp only [ints, splice, List.length_map, List.length_append, List.length_cons, List.length_nil, List.length_take, List.length_drop, List.length_set, List.length_replicate] at hlen
  by_cases hl : 12 < l.length
  · (repeat' (first | (refine iS ?_; refine iMu ?_; refine S.mapU ?_) | refine svz ⟨fun b hq => ?_⟩ | refine sv1 ?_ | refine svs ⟨?_⟩ | refine svu ⟨fun u => ?_⟩ | (refine svg (fun hg => ?_) (fun hg => ?_) <;> try (exfalso; first | omega | contradiction)) | (refine svc (fun hc => ?_) (fun hc => ?_) <;> try (exfalso; first | omega | contradiction)) | refine sv2 ?_ | refine svh (fun hb => ?_) (fun hb => ?_) | refine svb (fun b => ?_) | refine sva ?_ | refine sv3 ?_))
    refine S.call ?_; refine (awake_c _).mono ?_; rintro r h' ⟨rfl, hh⟩; subst hh
    (repeat' (first | (refine iS ?_; refine iMu ?_; refine S.mapU ?_) | refine svz ⟨fun b hq => ?_⟩ | refine sv1 ?_ | refine svs ⟨?_⟩ | refine svu ⟨fun u => ?_⟩ | (refine svg (fun hg => ?_) (fun hg => ?_) <;> try (exfalso; first | omega | contradiction)) | (refine svc (fun hc => ?_) (fun hc => ?_) <;> try (exfalso; first | omega | contradiction)) | refine sv2 ?_ | refine svh (fun hb => ?_) (fun hb => ?_) | refine svb (fun b => ?_) | refine sva ?_ | refine sv3 ?_))
    exact fin_r (h' := _) rfl
  (repeat' (first | (refine iS ?_; refine iMu ?_; refine S.mapU ?_) | refine svz ⟨fun b hq => ?_⟩ | refine sv1 ?_ | refine svs ⟨?_⟩ | refine svu ⟨fun u => ?_⟩ | (refine svg (fun hg => ?_) (fun hg => ?_) <;> try (exfalso; first | omega | contradiction)) | (refine svc (fun hc => ?_) (fun hc => ?_) <;> try (exfalso; first | omega | contradiction)) | refine sv2 ?_ | refine svh (fun hb => ?_) (fun hb => ?_) | refine svb (fun b => ?_) | refine sva ?_ | refine sv3 ?_))
  refine W.nil_ 4 35 ?_
  refine W.loop (J := fun q : Nat × Value => ⟨90, [(4, .val (.int .i64 (q.1 : Int))), (3, .val q.2), (0, .ro 4 (l.map Q4.enc))], .own q.2 4 (((l.take q.1).map Q4.rc).map RC.enc) 35 :: h⟩)
    (Φ := fun q => q.1 ≤ l.length) (μ := fun q => l.length - q.1) (0, .slice none 0 0) ⟨rfl, (by repeat (first | exact LeT.nil | refine LeT.cons rfl ?_ | refine LeT.consw rfl (by (repeat (first | exact Wk.refl _ | exact Wk.nilr _ | exact Wk.nilm | apply Wk.aggc | apply Wk.tupc | exact Wk.aggn | exact Wk.tupn)); first | done | fail) ?_)), (by repeat (first | exact LeH.refl _ | exact LeH.nil _ | refine LeH.cons (by (fail_if_success (apply tkG)); (repeat (first | exact Tk.here | apply Tk.there)); first | done | fail) ?_ | refine LeH.boxw (by (fail_if_success (apply tkG)); (repeat (first | exact Tk.here | apply Tk.there)); first | done | fail) (by (repeat (first | exact Wk.refl _ | exact Wk.nilr _ | exact Wk.nilm | apply Wk.aggc | apply Wk.tupc | exact Wk.aggn | exact Wk.tupn)); first | done | fail) ?_ | refine LeH.skip ?_))⟩ (Nat.zero_le _) ?_
  rintro ⟨k, v⟩ hk
  dsimp only at hk ⊢
  have hlk : (l.take k).length ≤ 12 := by rw [List.length_take]; omega
  rcases Nat.lt_or_ge k l.length with hlt | hge
  · obtain ⟨q, hx⟩ : ∃ q, l[k]? = some q := ⟨_, List.getElem?_eq_getElem hlt⟩
    have hq := ok q (List.mem_of_getElem? hx)
    obtain ⟨⟨a1, a2⟩, ⟨b1, b2⟩, ⟨c1, c2⟩, ⟨d1, d2⟩⟩ := hq
    have hs : (l.take (k + 1)).map Q4.rc = (l.take k).map Q4.rc ++ [q.rc] := by rw [List.take_add_one, hx, List.map_append]; rfl
    generalize hO : (l.take k).map Q4.rc = O at *
    have hol : O.length ≤ 12 := by rw [← hO, List.length_map]; exact hlk
    (repeat' (first | (refine iS ?_; refine iMu ?_; refine S.mapU ?_) | refine svz ⟨fun b hq => ?_⟩ | refine sv1 ?_ | refine svs ⟨?_⟩ | refine svu ⟨fun u => ?_⟩ | (refine svg (fun hg => ?_) (fun hg => ?_) <;> try (exfalso; first | omega | contradiction)) | (refine svc (fun hc => ?_) (fun hc => ?_) <;> try (exfalso; first | omega | contradiction)) | refine sv2 ?_ | refine svh (fun hb => ?_) (fun hb => ?_) | refine svb (fun b => ?_) | refine sva ?_ | refine sv3 ?_))
    refine R2.T ?_ (hp := (pur_index_arr_rp (q := 0) (nn := 4) rfl rfl rfl (by decide)).pur)
    (repeat' (first | (refine iS ?_; refine iMu ?_; refine S.mapU ?_) | refine svz ⟨fun b hq => ?_⟩ | refine sv1 ?_ | refine svs ⟨?_⟩ | refine svu ⟨fun u => ?_⟩ | (refine svg (fun hg => ?_) (fun hg => ?_) <;> try (exfalso; first | omega | contradiction)) | (refine svc (fun hc => ?_) (fun hc => ?_) <;> try (exfalso; first | omega | contradiction)) | refine sv2 ?_ | refine svh (fun hb => ?_) (fun hb => ?_) | refine svb (fun b => ?_) | refine sva ?_ | refine sv3 ?_))
    refine R2.T ?_ (hp := (pur_index_arr_rp (q := 1) (nn := 4) rfl rfl rfl (by decide)).pur)
    (repeat' (first | (refine iS ?_; refine iMu ?_; refine S.mapU ?_) | refine svz ⟨fun b hq => ?_⟩ | refine sv1 ?_ | refine svs ⟨?_⟩ | refine svu ⟨fun u => ?_⟩ | (refine svg (fun hg => ?_) (fun hg => ?_) <;> try (exfalso; first | omega | contradiction)) | (refine svc (fun hc => ?_) (fun hc => ?_) <;> try (exfalso; first | omega | contradiction)) | refine sv2 ?_ | refine svh (fun hb => ?_) (fun hb => ?_) | refine svb (fun b => ?_) | refine sva ?_ | refine sv3 ?_))
    refine R2.T ?_ (hp := (pur_index_arr_rp (q := 2) (nn := 4) rfl rfl rfl (by decide)).pur)
    (repeat' (first | (refine iS ?_; refine iMu ?_; refine S.mapU ?_) | refine svz ⟨fun b hq => ?_⟩ | refine sv1 ?_ | refine svs ⟨?_⟩ | refine svu ⟨fun u => ?_⟩ | (refine svg (fun hg => ?_) (fun hg => ?_) <;> try (exfalso; first | omega | contradiction)) | (refine svc (fun hc => ?_) (fun hc => ?_) <;> try (exfalso; first | omega | contradiction)) | refine sv2 ?_ | refine svh (fun hb => ?_) (fun hb => ?_) | refine svb (fun b => ?_) | refine sva ?_ | refine sv3 ?_))
    refine R2.T ?_ (hp := (pur_index_arr_rp (q := 3) (nn := 4) rfl rfl rfl (by decide)).pur)
    (repeat' (first | (refine iS ?_; refine iMu ?_; refine S.mapU ?_) | refine svz ⟨fun b hq => ?_⟩ | refine sv1 ?_ | refine svs ⟨?_⟩ | refine svu ⟨fun u => ?_⟩ | (refine svg (fun hg => ?_) (fun hg => ?_) <;> try (exfalso; first | omega | contradiction)) | (refine svc (fun hc => ?_) (fun hc => ?_) <;> try (exfalso; first | omega | contradiction)) | refine sv2 ?_ | refine svh (fun hb => ?_) (fun hb => ?_) | refine svb (fun b => ?_) | refine sva ?_ | refine sv3 ?_))
    exact ⟨(k + 1, u), hlt, by dsimp only; rw [hs, List.map_append]; exact ⟨rfl, (by repeat (first | exact LeT.nil | refine LeT.cons rfl ?_ | refine LeT.consw rfl (by (repeat (first | exact Wk.refl _ | exact Wk.nilr _ | exact Wk.nilm | apply Wk.aggc | apply Wk.tupc | exact Wk.aggn | exact Wk.tupn)); first | done | fail) ?_)), (by repeat (first | exact LeH.refl _ | exact LeH.nil _ | refine LeH.cons (by (fail_if_success (apply tkG)); (repeat (first | exact Tk.here | apply Tk.there)); first | done | fail) ?_ | refine LeH.boxw (by (fail_if_success (apply tkG)); (repeat (first | exact Tk.here | apply Tk.there)); first | done | fail) (by (repeat (first | exact Wk.refl _ | exact Wk.nilr _ | exact Wk.nilm | apply Wk.aggc | apply Wk.tupc | exact Wk.aggn | exact Wk.tupn)); first | done | fail) ?_ | refine LeH.skip ?_))⟩, by dsimp only; omega⟩
  · have e : k = l.length := by omega
    subst e
    rw [List.take_length]
    have okL : ∀ r ∈ l.map Q4.rc, r.ok := fun r hr => by obtain ⟨q, _, rfl⟩ := List.mem_map.1 hr; exact rc_ok4 q
    have hLl : (l.map Q4.rc).length ≤ 12 := by rw [List.length_map]; omega
    have har := area_places l
    generalize l.map Q4.rc = L at *
    have hof := fun h => of_c L h (by omega) okL
    have ho := ofF_len L
    have ho2 : (ofF L).length ≤ 30000 := by
      have : 2 * L.length * L.length ≤ 2 * 12 * 12 := Nat.mul_le_mul (Nat.mul_le_mul_left _ (by omega)) (by omega)
      omega
    have hcn := ofF_cnt L
    have hrh := fun x y h => rhas_c L x y h okL
    have hbh := fun x y h => bhas_c (ofF L) x y h (by omega) hcn (ofF_y L)
    simp only [has_ofF] at hbh
    have hba := fun h => barea_c (ofF L) h (by omega) (fun r hr => (hcn r hr).sm)
    simp only [har] at hba
    generalize ofF L = A at *
    (repeat' (first | (refine iS ?_; refine iMu ?_; refine S.mapU ?_) | refine svz ⟨fun b hq => ?_⟩ | refine sv1 ?_ | refine svs ⟨?_⟩ | refine svu ⟨fun u => ?_⟩ | (refine svg (fun hg => ?_) (fun hg => ?_) <;> try (exfalso; first | omega | contradiction)) | (refine svc (fun hc => ?_) (fun hc => ?_) <;> try (exfalso; first | omega | contradiction)) | refine sv2 ?_ | refine svh (fun hb => ?_) (fun hb => ?_) | refine svb (fun b => ?_) | refine sva ?_ | refine sv3 ?_))
    refine Step.frz (v := v) (by (fail_if_success (apply tkG)); (repeat (first | exact Tk.here | apply Tk.there)); first | done | fail) (by repeat' (first | apply FrzT.cons | exact FrzT.rest _ | exact Frz.hit | apply Frz.aggc | apply Frz.tupc | exact Frz.aggn | exact Frz.tupn | exact Frz.keep _)) (by repeat' (first | apply FrzH.box | apply FrzH.keep | exact FrzH.rest _ | exact Frz.hit | apply Frz.aggc | apply Frz.tupc | exact Frz.aggn | exact Frz.tupn | exact Frz.keep _)) ?_
    refine S.call ?_; refine (hof _).mono ?_; rintro r h' ⟨rfl, hh⟩; subst hh
    (repeat' (first | (refine iS ?_; refine iMu ?_; refine S.mapU ?_) | refine svz ⟨fun b hq => ?_⟩ | refine sv1 ?_ | refine svs ⟨?_⟩ | refine svu ⟨fun u => ?_⟩ | (refine svg (fun hg => ?_) (fun hg => ?_) <;> try (exfalso; first | omega | contradiction)) | (refine svc (fun hc => ?_) (fun hc => ?_) <;> try (exfalso; first | omega | contradiction)) | refine sv2 ?_ | refine svh (fun hb => ?_) (fun hb => ?_) | refine svb (fun b => ?_) | refine sva ?_ | refine sv3 ?_))
    let row : Nat → Int := fun i => sumI 22 fun j => ind (hasF L ((j : Int) - 1) ((i : Int) - 1))
    have hrow : ∀ i, 0 ≤ row i ∧ row i ≤ 22 := fun i => sumI_in (c := 1) fun j _ => ind_in _
    have hgrid : grid 1 22 (hasF L) = sumI 22 row := rfl
    rw [hgrid] at hba
    refine W.loop (J := fun i : Nat => ⟨90, [(9, .val (.int .i64 ((i : Int) - 1))), (8, .val (.int .i64 (sumI i row))), (7, .val (.pointer (some ⟨b, 0, none⟩))), (3, .ro 4 (L.map RC.enc))], .box b [.ro 4 (A.map RC.enc)] 25 :: h'⟩)
      (Φ := fun i => i ≤ 22) (μ := fun i => 22 - i) 0 ⟨rfl, (by repeat (first | exact LeT.nil | refine LeT.cons rfl ?_ | refine LeT.consw rfl (by (repeat (first | exact Wk.refl _ | exact Wk.nilr _ | exact Wk.nilm | apply Wk.aggc | apply Wk.tupc | exact Wk.aggn | exact Wk.tupn)); first | done | fail) ?_)), (by repeat (first | exact LeH.refl _ | exact LeH.nil _ | refine LeH.cons (by (fail_if_success (apply tkG)); (repeat (first | exact Tk.here | apply Tk.there)); first | done | fail) ?_ | refine LeH.boxw (by (fail_if_success (apply tkG)); (repeat (first | exact Tk.here | apply Tk.there)); first | done | fail) (by (repeat (first | exact Wk.refl _ | exact Wk.nilr _ | exact Wk.nilm | apply Wk.aggc | apply Wk.tupc | exact Wk.aggn | exact Wk.tupn)); first | done | fail) ?_ | refine LeH.skip ?_))⟩ (Nat.zero_le _) ?_
    intro i hi
    have hsi := sumI_in (f := row) (c := 22) (n := i) fun i _ => hrow i
    rcases Nat.lt_or_ge i 22 with hil | hig
    · have hs1 : sumI (i + 1) row = sumI i row + sumI 22 fun j => ind (hasF L ((j : Int) - 1) ((i : Int) - 1)) := rfl
      have hi1 : ((i + 1 : Nat) : Int) - 1 = (i : Int) - 1 + 1 := by omega
      generalize sumI i row = S0 at *
      (repeat' (first | (refine iS ?_; refine iMu ?_; refine S.mapU ?_) | refine svz ⟨fun b hq => ?_⟩ | refine sv1 ?_ | refine svs ⟨?_⟩ | refine svu ⟨fun u => ?_⟩ | (refine svg (fun hg => ?_) (fun hg => ?_) <;> try (exfalso; first | omega | contradiction)) | (refine svc (fun hc => ?_) (fun hc => ?_) <;> try (exfalso; first | omega | contradiction)) | refine sv2 ?_ | refine svh (fun hb => ?_) (fun hb => ?_) | refine svb (fun b => ?_) | refine sva ?_ | refine sv3 ?_))
      refine W.loop (J := fun j : Nat => ⟨90, [(10, .val (.int .i64 ((j : Int) - 1))), (9, .val (.int .i64 ((i : Int) - 1))), (8, .val (.int .i64 (S0 + sumI j fun j => ind (hasF L ((j : Int) - 1) ((i : Int) - 1))))), (7, .val (.pointer (some ⟨b, 0, none⟩))), (3, .ro 4 (L.map RC.enc))], .box b [.ro 4 (A.map RC.enc)] 25 :: h'⟩)
        (Φ := fun j => j ≤ 22) (μ := fun j => 22 - j) 0 (by rw [show (sumI 0 fun j => ind (hasF L ((j : Int) - 1) ((i : Int) - 1))) = 0 from rfl, Int.add_zero]; exact ⟨rfl, (by repeat (first | exact LeT.nil | refine LeT.cons rfl ?_ | refine LeT.consw rfl (by (repeat (first | exact Wk.refl _ | exact Wk.nilr _ | exact Wk.nilm | apply Wk.aggc | apply Wk.tupc | exact Wk.aggn | exact Wk.tupn)); first | done | fail) ?_)), (by repeat (first | exact LeH.refl _ | exact LeH.nil _ | refine LeH.cons (by (fail_if_success (apply tkG)); (repeat (first | exact Tk.here | apply Tk.there)); first | done | fail) ?_ | refine LeH.boxw (by (fail_if_success (apply tkG)); (repeat (first | exact Tk.here | apply Tk.there)); first | done | fail) (by (repeat (first | exact Wk.refl _ | exact Wk.nilr _ | exact Wk.nilm | apply Wk.aggc | apply Wk.tupc | exact Wk.aggn | exact Wk.tupn)); first | done | fail) ?_ | refine LeH.skip ?_))⟩) (Nat.zero_le _) ?_
      intro j hj
      have hsj := sumI_in (f := fun j : Nat => ind (hasF L ((j : Int) - 1) ((i : Int) - 1))) (c := 1) (n := j) fun i _ => ind_in _
      rcases Nat.lt_or_ge j 22 with hjl | hjg
      · have hs2 : (sumI (j + 1) fun j => ind (hasF L ((j : Int) - 1) ((i : Int) - 1))) = (sumI j fun j => ind (hasF L ((j : Int) - 1) ((i : Int) - 1))) + ind (hasF L ((j : Int) - 1) ((i : Int) - 1)) := rfl
        have hj1 : ((j + 1 : Nat) : Int) - 1 = (j : Int) - 1 + 1 := by omega
        have h1 := fun h => hrh ((j : Int) - 1) ((i : Int) - 1) h
        have h2 := fun h => hbh ((j : Int) - 1) ((i : Int) - 1) h
        generalize (sumI j fun j => ind (hasF L ((j : Int) - 1) ((i : Int) - 1))) = S1 at *
        generalize hw : hasF L ((j : Int) - 1) ((i : Int) - 1) = w at *
        (repeat' (first | (refine iS ?_; refine iMu ?_; refine S.mapU ?_) | refine svz ⟨fun b hq => ?_⟩ | refine sv1 ?_ | refine svs ⟨?_⟩ | refine svu ⟨fun u => ?_⟩ | (refine svg (fun hg => ?_) (fun hg => ?_) <;> try (exfalso; first | omega | contradiction)) | (refine svc (fun hc => ?_) (fun hc => ?_) <;> try (exfalso; first | omega | contradiction)) | refine sv2 ?_ | refine svh (fun hb => ?_) (fun hb => ?_) | refine svb (fun b => ?_) | refine sva ?_ | refine sv3 ?_))
        refine S.call ?_; refine (h1 _).mono ?_; rintro r h' ⟨rfl, hh⟩; subst hh
        (repeat' (first | (refine iS ?_; refine iMu ?_; refine S.mapU ?_) | refine svz ⟨fun b hq => ?_⟩ | refine sv1 ?_ | refine svs ⟨?_⟩ | refine svu ⟨fun u => ?_⟩ | (refine svg (fun hg => ?_) (fun hg => ?_) <;> try (exfalso; first | omega | contradiction)) | (refine svc (fun hc => ?_) (fun hc => ?_) <;> try (exfalso; first | omega | contradiction)) | refine sv2 ?_ | refine svh (fun hb => ?_) (fun hb => ?_) | refine svb (fun b => ?_) | refine sva ?_ | refine sv3 ?_))
        refine S.call ?_; refine (h2 _).mono ?_; rintro r h' ⟨rfl, hh⟩; subst hh
        cases w with
        | false =>
          (repeat' (first | (refine iS ?_; refine iMu ?_; refine S.mapU ?_) | refine svz ⟨fun b hq => ?_⟩ | refine sv1 ?_ | refine svs ⟨?_⟩ | refine svu ⟨fun u => ?_⟩ | (refine svg (fun hg => ?_) (fun hg => ?_) <;> try (exfalso; first | omega | contradiction)) | (refine svc (fun hc => ?_) (fun hc => ?_) <;> try (exfalso; first | omega | contradiction)) | refine sv2 ?_ | refine svh (fun hb => ?_) (fun hb => ?_) | refine svb (fun b => ?_) | refine sva ?_ | refine sv3 ?_))
          exact ⟨j + 1, hjl, by rw [hs2, hj1, show ind false = 0 from rfl, Int.add_zero]; exact ⟨rfl, (by repeat (first | exact LeT.nil | refine LeT.cons rfl ?_ | refine LeT.consw rfl (by (repeat (first | exact Wk.refl _ | exact Wk.nilr _ | exact Wk.nilm | apply Wk.aggc | apply Wk.tupc | exact Wk.aggn | exact Wk.tupn)); first | done | fail) ?_)), (by repeat (first | exact LeH.refl _ | exact LeH.nil _ | refine LeH.cons (by (fail_if_success (apply tkG)); (repeat (first | exact Tk.here | apply Tk.there)); first | done | fail) ?_ | refine LeH.boxw (by (fail_if_success (apply tkG)); (repeat (first | exact Tk.here | apply Tk.there)); first | done | fail) (by (repeat (first | exact Wk.refl _ | exact Wk.nilr _ | exact Wk.nilm | apply Wk.aggc | apply Wk.tupc | exact Wk.aggn | exact Wk.tupn)); first | done | fail) ?_ | refine LeH.skip ?_))⟩, by omega⟩
        | true =>
          (repeat' (first | (refine iS ?_; refine iMu ?_; refine S.mapU ?_) | refine svz ⟨fun b hq => ?_⟩ | refine sv1 ?_ | refine svs ⟨?_⟩ | refine svu ⟨fun u => ?_⟩ | (refine svg (fun hg => ?_) (fun hg => ?_) <;> try (exfalso; first | omega | contradiction)) | (refine svc (fun hc => ?_) (fun hc => ?_) <;> try (exfalso; first | omega | contradiction)) | refine sv2 ?_ | refine svh (fun hb => ?_) (fun hb => ?_) | refine svb (fun b => ?_) | refine sva ?_ | refine sv3 ?_))
          exact ⟨j + 1, hjl, by rw [hs2, hj1, show ind true = 1 from rfl, ← Int.add_assoc]; exact ⟨rfl, (by repeat (first | exact LeT.nil | refine LeT.cons rfl ?_ | refine LeT.consw rfl (by (repeat (first | exact Wk.refl _ | exact Wk.nilr _ | exact Wk.nilm | apply Wk.aggc | apply Wk.tupc | exact Wk.aggn | exact Wk.tupn)); first | done | fail) ?_)), (by repeat (first | exact LeH.refl _ | exact LeH.nil _ | refine LeH.cons (by (fail_if_success (apply tkG)); (repeat (first | exact Tk.here | apply Tk.there)); first | done | fail) ?_ | refine LeH.boxw (by (fail_if_success (apply tkG)); (repeat (first | exact Tk.here | apply Tk.there)); first | done | fail) (by (repeat (first | exact Wk.refl _ | exact Wk.nilr _ | exact Wk.nilm | apply Wk.aggc | apply Wk.tupc | exact Wk.aggn | exact Wk.tupn)); first | done | fail) ?_ | refine LeH.skip ?_))⟩, by omega⟩
      · have e : j = 22 := by omega
        subst e
        (repeat' (first | (refine iS ?_; refine iMu ?_; refine S.mapU ?_) | refine svz ⟨fun b hq => ?_⟩ | refine sv1 ?_ | refine svs ⟨?_⟩ | refine svu ⟨fun u => ?_⟩ | (refine svg (fun hg => ?_) (fun hg => ?_) <;> try (exfalso; first | omega | contradiction)) | (refine svc (fun hc => ?_) (fun hc => ?_) <;> try (exfalso; first | omega | contradiction)) | refine sv2 ?_ | refine svh (fun hb => ?_) (fun hb => ?_) | refine svb (fun b => ?_) | refine sva ?_ | refine sv3 ?_))
        exact ⟨i + 1, hil, by rw [hs1, hi1]; exact ⟨rfl, (by repeat (first | exact LeT.nil | refine LeT.cons rfl ?_ | refine LeT.consw rfl (by (repeat (first | exact Wk.refl _ | exact Wk.nilr _ | exact Wk.nilm | apply Wk.aggc | apply Wk.tupc | exact Wk.aggn | exact Wk.tupn)); first | done | fail) ?_)), (by repeat (first | exact LeH.refl _ | exact LeH.nil _ | refine LeH.cons (by (fail_if_success (apply tkG)); (repeat (first | exact Tk.here | apply Tk.there)); first | done | fail) ?_ | refine LeH.boxw (by (fail_if_success (apply tkG)); (repeat (first | exact Tk.here | apply Tk.there)); first | done | fail) (by (repeat (first | exact Wk.refl _ | exact Wk.nilr _ | exact Wk.nilm | apply Wk.aggc | apply Wk.tupc | exact Wk.aggn | exact Wk.tupn)); first | done | fail) ?_ | refine LeH.skip ?_))⟩, by omega⟩
    · have e : i = 22 := by omega
      subst e
      (repeat' (first | (refine iS ?_; refine iMu ?_; refine S.mapU ?_) | refine svz ⟨fun b hq => ?_⟩ | refine sv1 ?_ | refine svs ⟨?_⟩ | refine svu ⟨fun u => ?_⟩ | (refine svg (fun hg => ?_) (fun hg => ?_) <;> try (exfalso; first | omega | contradiction)) | (refine svc (fun hc => ?_) (fun hc => ?_) <;> try (exfalso; first | omega | contradiction)) | refine sv2 ?_ | refine svh (fun hb => ?_) (fun hb => ?_) | refine svb (fun b => ?_) | refine sva ?_ | refine sv3 ?_))
      refine S.call ?_; refine (hba _).mono ?_; rintro r h' ⟨rfl, hh⟩; subst hh
      (repeat' (first | (refine iS ?_; refine iMu ?_; refine S.mapU ?_) | refine svz ⟨fun b hq => ?_⟩ | refine sv1 ?_ | refine svs ⟨?_⟩ | refine svu ⟨fun u => ?_⟩ | (refine svg (fun hg => ?_) (fun hg => ?_) <;> try (exfalso; first | omega | contradiction)) | (refine svc (fun hc => ?_) (fun hc => ?_) <;> try (exfalso; first | omega | contradiction)) | refine sv2 ?_ | refine svh (fun hb => ?_) (fun hb => ?_) | refine svb (fun b => ?_) | refine sva ?_ | refine sv3 ?_))
      refine S.call ?_; refine (awake_c _).mono ?_; rintro r h' ⟨rfl, hh⟩; subst hh
      (repeat' (first | (refine iS ?_; refine iMu ?_; refine S.mapU ?_) | refine svz ⟨fun b hq => ?_⟩ | refine sv1 ?_ | refine svs ⟨?_⟩ | refine svu ⟨fun u => ?_⟩ | (refine svg (fun hg => ?_) (fun hg => ?_) <;> try (exfalso; first | omega | contradiction)) | (refine svc (fun hc => ?_) (fun hc => ?_) <;> try (exfalso; first | omega | contradiction)) | refine sv2 ?_ | refine svh (fun hb => ?_) (fun hb => ?_) | refine svb (fun b => ?_) | refine sva ?_ | refine sv3 ?_))
      exact fin_r (h' := _) rfl
end Go.Proofs.Ytifpcjnjfdjcdaa
