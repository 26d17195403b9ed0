import Derived.Test.YtlnpelohdamklaaProg
import Derived.Test.YtlnpelohdamklaaLib
import Derived.Outline
namespace Go.Proofs.Ytlnpelohdamklaa
open Go.RowKit
set_option linter.unusedVariables false
set_option linter.unusedSimpArgs false

/-- A property: name, type, format, numbers. -/
structure PR where
  name : Int
  typ : Int
  fmt : Int
  data : List Int

def mostF (n : Int) : Int := if n = 8 then 255 else if n = 16 then 65535 else if n = 32 then 4294967295 else -1

set_option maxHeartbeats 400000 in
theorem most_any (n : Int) (w : World) (h1 : -9223372036854775808 ≤ n) (h2 : n ≤ 9223372036854775807) :
    Calls Try.prog 34 #[.int .i64 n] w fun e w' => e = .returned (.int .i64 (mostF n)) ∧ w = w' := by
  by_cases a : n = 8
  · subst a
    go_enter Try.func34, Try.ntmps34
    go_wp2
    go_ret
    exact ⟨rfl, rfl⟩
  by_cases b : n = 16
  · subst b
    go_enter Try.func34, Try.ntmps34
    go_wp2
    go_ret
    exact ⟨rfl, rfl⟩
  by_cases c : n = 32
  · subst c
    go_enter Try.func34, Try.ntmps34
    go_wp2
    go_ret
    exact ⟨rfl, rfl⟩
  go_enter Try.func34, Try.ntmps34
  go_wp2
  go_ret
  exact ⟨by simp [mostF, a, b, c], rfl⟩

theorem mostF_le (n : Int) : -1 ≤ mostF n ∧ mostF n ≤ 4294967295 := by
  unfold mostF; split
  · omega
  · split
    · omega
    · split <;> omega

def badV (top : Int) (v : Int) : Bool := decide (v < 0) || decide (top < v)
/-- What check tells. -/
def chkF (p : PR) : Int :=
  if p.name = 0 then 11 else if p.typ = 0 then 22 else if mostF p.fmt < 0 then 17 else if 16384 < p.data.length then 4 else if p.data.any (badV (mostF p.fmt)) then 1 else 0

/-- A property's cells, as a struct's value. -/
def PR.val (p : PR) (dv : Value) : Value := .agg #[.int .u32 p.name, .int .u32 p.typ, .int .i64 p.fmt, dv]
def PR.ok (p : PR) : Prop := 0 ≤ p.name ∧ p.name ≤ 4294967295 ∧ 0 ≤ p.typ ∧ p.typ ≤ 4294967295 ∧ -9223372036854775808 ≤ p.fmt ∧ p.fmt ≤ 9223372036854775807

theorem chk5 (nm ty fm : Int) (data : List Int) (a : ¬ nm = 0) (b : ¬ ty = 0) (d : ¬ mostF fm < 0) (e : ¬ 16384 < data.length) :
    chkF ⟨nm, ty, fm, data⟩ = if data.any (badV (mostF fm)) then 1 else 0 := by simp [chkF, a, b, d, e]
theorem any_bad {data : List Int} {k : Nat} {x top : Int} (HX : Hid (data[k]? = some x)) (HV : Hid (badV top x = true)) : data.any (badV top) = true :=
  List.any_eq_true.2 ⟨x, mem_of_at HX, HV.out⟩
set_option maxHeartbeats 400000 in
theorem check_any {F : Foot} (p : PR) (hp : p.ok) (dv : Value) (w : World) (hd : Ints F w .i64 dv p.data) :
    Calls Try.prog 22 #[p.val dv] w fun e w' => e = .returned (.int .i64 (chkF p)) ∧ Below w.heap.size w w' := by
  obtain ⟨A, c, rfl, h1, h2, h3, h4⟩ := hd.open_
  obtain ⟨nm, ty, fm, data⟩ := p
  obtain ⟨p1, p2, p3, p4, p5, p6⟩ := hp
  simp only at p1 p2 p3 p4 p5 p6 h1 h2 h4
  have hm := mostF_le fm
  unfold PR.val
  clear h3 hd
  by_cases a : nm = 0
  · subst a
    go_enter Try.func22, Try.ntmps22
    go_wp2_with (go_at_call 34; refine (most_any fm _ p5 p6).mono ?_; rintro e w' ⟨rfl, rfl⟩)
    go_ret
    exact ⟨rfl, (Below.refl _ _).alloc (by simp) _⟩
  have a' : (nm == 0) = false := by simpa using a
  by_cases b : ty = 0
  · subst b
    go_enter Try.func22, Try.ntmps22
    go_wp2_with (go_at_call 34; refine (most_any fm _ p5 p6).mono ?_; rintro e w' ⟨rfl, rfl⟩)
    go_ret
    exact ⟨by simp [chkF, a], (Below.refl _ _).alloc (by simp) _⟩
  have b' : (ty == 0) = false := by simpa using b
  by_cases d : mostF fm < 0
  · go_enter Try.func22, Try.ntmps22
    go_wp2_with (go_at_call 34; refine (most_any fm _ p5 p6).mono ?_; rintro e w' ⟨rfl, rfl⟩)
    go_ret
    exact ⟨by simp [chkF, a, b, d], (Below.refl _ _).alloc (by simp) _⟩
  by_cases e : 16384 < data.length
  · go_enter Try.func22, Try.ntmps22
    go_wp2_with (go_at_call 34; refine (most_any fm _ p5 p6).mono ?_; rintro e w' ⟨rfl, rfl⟩)
    go_ret
    exact ⟨by simp [chkF, a, b, d, e], (Below.refl _ _).alloc (by simp) _⟩
  have H5 := Lib.hid (chk5 nm ty fm data a b d e)
  go_enter Try.func22, Try.ntmps22
  go_wp2_with (go_at_call 34; refine (most_any fm _ p5 p6).mono ?_; rintro e w' ⟨rfl, rfl⟩)
  go_loop [5, 28] (fun _ i => ∃ k : Nat, k ≤ data.length ∧ i = .int .i64 k ∧ (data.take k).any (badV (mostF fm)) = false) (fun _ i => data.length - (intOf i).toNat)
  case atStart => exact ⟨0, by omega, rfl, rfl⟩
  case round =>
    obtain ⟨k, hk, rfl, htk⟩ := hrel
    have HT := Lib.hid htk
    clear htk
    by_cases hlt : k < data.length
    · obtain ⟨bk, off, x, rfl, hb1, hc1, HX⟩ := h4 k hlt
      clear h4
      cases hv : badV (mostF fm) (x)
      · have hv1 : ¬ x < 0 := by simp [badV] at hv; simpa using hv.1
        have hv2 : ¬ mostF fm < x := by simp [badV] at hv; simpa using hv.2
        have HV := Lib.hid hv
        clear hv
        go_wp2
        go_round
        case rel => exact ⟨k + 1, by omega, by go_num, by rw [take_snoc HX, List.any_append, HT.out]; simp [HV.out]⟩
        case measure => simp [intOf]; omega
      · have HV := Lib.hid hv
        clear hv
        by_cases hv1 : x < 0
        · go_wp2
          go_ret
          exact ⟨by rw [H5.out, any_bad HX HV]; rfl, (Below.refl _ _).alloc (by simp) _⟩
        · have hv2 : mostF fm < x := by have := HV.out; simp [badV] at this; omega
          go_wp2
          go_ret
          exact ⟨by rw [H5.out, any_bad HX HV]; rfl, (Below.refl _ _).alloc (by simp) _⟩
    · obtain rfl : k = data.length := by omega
      go_wp2
      go_ret
      have ht := HT.out
      rw [List.take_length] at ht
      exact ⟨by rw [H5.out, ht]; rfl, (Below.refl _ _).alloc (by simp) _⟩

/-- A property as a row of four cells. -/
def PR.row (F : Foot) (w : World) (cs : List Value) (p : PR) : Prop := p.ok ∧ ∃ dv, cs = [.int .u32 p.name, .int .u32 p.typ, .int .i64 p.fmt, dv] ∧ Ints F w .i64 dv p.data
theorem PR.mono : Mono PR.row := fun _ _ _ _ _ ⟨h0, dv, h1, h2⟩ hk => ⟨h0, dv, h1, h2.agree hk⟩
theorem PR.monoF : MonoF PR.row := fun _ _ _ _ _ ⟨h0, dv, h1, h2⟩ hF => ⟨h0, dv, h1, h2.mono hF⟩
theorem PR.one : OneC PR.row := by
  rintro F w cs p ⟨_, dv, rfl, A, c, rfl, _⟩ y hy
  simp at hy
  rcases hy with rfl | rfl | rfl | rfl <;> rfl
def Props (F : Foot) (w : World) (v : Value) (ps : List PR) : Prop := SlOf PR.row F w 4 v ps
theorem Props.below {F : Foot} {w w' : World} {B : Nat} {v : Value} {ps : List PR} (h : Props F w v ps) (hb : Below B w w') (hB : w.heap.size ≤ B) : Props F w' v ps := SlOf.below PR.mono h hb hB
theorem Props.agree {F : Foot} {w w' : World} {v : Value} {ps : List PR} (h : Props F w v ps) (hk : Agree F w w') : Props F w' v ps := SlOf.agree PR.mono h hk
theorem Props.wider {F G : Foot} {w : World} {v : Value} {ps : List PR} (h : Props F w v ps) (hF : ∀ b, F b → b < w.heap.size → G b) : Props G w v ps := SlOf.mono PR.monoF h hF
/-- What a walk opens of a slice of properties. -/
theorem Props.open_ {F : Foot} {w : World} {v : Value} {ps : List PR} (h : Props F w v ps) : ∃ A c, v = .slice A ps.length c ∧ ps.length ≤ c ∧ c ≤ 9223372036854775807 ∧ (A = none → c = 0) ∧
    ∀ i, i < ps.length → ∃ b off nm ty fm data dv, A = some ⟨b, off, none⟩ ∧ b < w.heap.size ∧ PR.ok ⟨nm, ty, fm, data⟩ ∧ Ints F w .i64 dv data ∧ Hid (ps[i]? = some ⟨nm, ty, fm, data⟩) ∧
      w.cell? ⟨b, off + i * 4, none⟩ = some (.int .u32 nm) ∧ w.cell? ⟨b, off + i * 4 + 1, none⟩ = some (.int .u32 ty) ∧ w.cell? ⟨b, off + i * 4 + 2, none⟩ = some (.int .i64 fm) ∧ w.cell? ⟨b, off + i * 4 + 3, none⟩ = some dv := by
  obtain ⟨A, c, e, g1, g2, g3, g4⟩ := SlOf.open_ (by omega) h
  refine ⟨A, c, e, g1, g2, g3, fun i hi => ?_⟩
  obtain ⟨b, off, cs, x, e1, e2, e3, ⟨e4, dv, rfl, e5⟩, e6, e7⟩ := g4 i hi
  exact ⟨b, off, x.name, x.typ, x.fmt, x.data, dv, e1, e2, e4, e5, e6, by simpa using e7 0 (by omega), by simpa [Nat.add_assoc] using e7 1 (by omega), by simpa [Nat.add_assoc] using e7 2 (by omega), by simpa [Nat.add_assoc] using e7 3 (by omega)⟩

set_option maxHeartbeats 400000 in
theorem atc_any (p : PR) (dv : Value) (n : Int) (b : Nat) (w : World) (hb : b < w.heap.size) (hc : w.cell? ⟨b, 0, none⟩ = some (.int .u32 n)) :
    Calls Try.prog 36 #[p.val dv, .pointer (some ⟨b, 0, none⟩)] w fun e w' => e = .returned (.bool (p.name == n)) ∧ Below w.heap.size w w' := by
  obtain ⟨nm, ty, fm, data⟩ := p
  unfold PR.val
  go_enter Try.func36, Try.ntmps36
  go_wp2
  go_ret
  exact ⟨rfl, (Below.refl _ _).alloc (by simp) _⟩

end Go.Proofs.Ytlnpelohdamklaa
