/- ref15: Near, Edge; the law's small rectangles. No condition. -/
import Derived.Test.YtdknjjgmmmmfjaaE5
import Derived.Test.YtdknjjgmmmmfjaaVM28
import Derived.Test.YtdknjjgmmmmfjaaW1
namespace Go.Proofs.Ytdknjjgmmmmfjaa
open Go Go.VM
attribute [local irreducible] PurV Pur Step RL W D ACalls Then InBlock Fini
set_option linter.unusedVariables false
set_option linter.unusedSimpArgs false
set_option maxHeartbeats 20000000
structure Sq where
  (a b c d : Int)
def Sq.enc (q : Sq) : AV := .agg [.val (.int .u8 q.a), .val (.int .u8 q.b), .val (.int .u8 q.c), .val (.int .u8 q.d)]
def Sq.ok (q : Sq) : Prop := (0 ≤ q.a ∧ q.a ≤ 255) ∧ (0 ≤ q.b ∧ q.b ≤ 255) ∧ (0 ≤ q.c ∧ q.c ≤ 255) ∧ (0 ≤ q.d ∧ q.d ≤ 255)
def Sq.rc (q : Sq) : RC := ⟨q.a % 12, q.b % 12, q.c % 7, q.d % 7⟩
theorem sm_ok (q : Sq) : q.rc.ok := by
  unfold Sq.rc
  constructor <;> (unfold I64; dsimp only; omega)
theorem sm_all {l : List Sq} : ∀ r ∈ l.map Sq.rc, r.ok := fun r hr => by obtain ⟨q, _, rfl⟩ := List.mem_map.1 hr; exact sm_ok q
theorem sm_bx (l : List Sq) : Bx 0 17 (ofF (l.map Sq.rc)) := .of fun r hr hc => by
  obtain ⟨q, _, rfl⟩ := List.mem_map.1 hr
  unfold Sq.rc
  dsimp only
  omega
set_option maxRecDepth 100000 in
theorem rectsS_c0 (l : List Sq) (h : Heap) (hl : l.length ≤ 10) (ok : ∀ q ∈ l, q.ok) : ACalls Try.prog 11 [.ro 4 (l.map Sq.enc)] h (fun r h' => ∃ v, r = .val v ∧ h' = .own v 4 ((l.map Sq.rc).map RC.enc) 43 :: h) := by
  refine ACalls.intro Try.func11 rfl Try.ntmps11 Try.results11 (Nat.le_of_ble_eq_true rfl) ?_
  (repeat' (first | (refine iS ?_; refine iMu ?_; refine S.mapU ?_) | refine svz ⟨fun b hq => ?_⟩ | refine sv1 ?_ | refine svs ⟨?_⟩ | refine svu ⟨fun u => ?_⟩ | (refine svg (fun hg => ?_) (fun hg => ?_) <;> try (exfalso; first | omega | contradiction)) | (refine svc (fun hc => ?_) (fun hc => ?_) <;> try (exfalso; first | omega | contradiction)) | refine sv2 ?_ | refine svh (fun hb => ?_) (fun hb => ?_) | refine svb (fun b => ?_) | refine sva ?_ | refine sv3 ?_))
  refine W.nil_ 4 43 ?_
  refine W.loop (J := fun q : Nat × Value => ⟨44, [(4, .val (.int .i64 (q.1 : Int))), (3, .val q.2), (0, .ro 4 (l.map Sq.enc))], .own q.2 4 (((l.take q.1).map Sq.rc).map RC.enc) 43 :: h⟩)
    (Φ := fun q => q.1 ≤ l.length) (μ := fun q => l.length - q.1) (0, .slice none 0 0) lee (Nat.zero_le _) ?_
  rintro ⟨k, v⟩ hk
  dsimp only at hk ⊢
  have hlk : (l.take k).length ≤ 12 := by rw [List.length_take]; omega
  rcases Nat.lt_or_ge k l.length with hlt | hge
  · obtain ⟨q, hx⟩ : ∃ q, l[k]? = some q := ⟨_, List.getElem?_eq_getElem hlt⟩
    have hq := ok q (List.mem_of_getElem? hx)
    obtain ⟨⟨a1, a2⟩, ⟨b1, b2⟩, ⟨c1, c2⟩, ⟨d1, d2⟩⟩ := hq
    have hs : (l.take (k + 1)).map Sq.rc = (l.take k).map Sq.rc ++ [q.rc] := by rw [List.take_add_one, hx, List.map_append]; rfl
    generalize hO : (l.take k).map Sq.rc = O at *
    have hol : O.length ≤ 12 := by rw [← hO, List.length_map]; exact hlk
    (repeat' (first | (refine iS ?_; refine iMu ?_; refine S.mapU ?_) | refine svz ⟨fun b hq => ?_⟩ | refine sv1 ?_ | refine svs ⟨?_⟩ | refine svu ⟨fun u => ?_⟩ | (refine svg (fun hg => ?_) (fun hg => ?_) <;> try (exfalso; first | omega | contradiction)) | (refine svc (fun hc => ?_) (fun hc => ?_) <;> try (exfalso; first | omega | contradiction)) | refine sv2 ?_ | refine svh (fun hb => ?_) (fun hb => ?_) | refine svb (fun b => ?_) | refine sva ?_ | refine sv3 ?_))
    refine R2.T ?_ (hp := .l rfl (pur_index_arr_rq (q := 0) (nn := 4) rfl rfl rfl (by decide)).pur)
    (repeat' (first | (refine iS ?_; refine iMu ?_; refine S.mapU ?_) | refine svz ⟨fun b hq => ?_⟩ | refine sv1 ?_ | refine svs ⟨?_⟩ | refine svu ⟨fun u => ?_⟩ | (refine svg (fun hg => ?_) (fun hg => ?_) <;> try (exfalso; first | omega | contradiction)) | (refine svc (fun hc => ?_) (fun hc => ?_) <;> try (exfalso; first | omega | contradiction)) | refine sv2 ?_ | refine svh (fun hb => ?_) (fun hb => ?_) | refine svb (fun b => ?_) | refine sva ?_ | refine sv3 ?_))
    refine R2.T ?_ (hp := .l rfl (pur_index_arr_rq (q := 1) (nn := 4) rfl rfl rfl (by decide)).pur)
    (repeat' (first | (refine iS ?_; refine iMu ?_; refine S.mapU ?_) | refine svz ⟨fun b hq => ?_⟩ | refine sv1 ?_ | refine svs ⟨?_⟩ | refine svu ⟨fun u => ?_⟩ | (refine svg (fun hg => ?_) (fun hg => ?_) <;> try (exfalso; first | omega | contradiction)) | (refine svc (fun hc => ?_) (fun hc => ?_) <;> try (exfalso; first | omega | contradiction)) | refine sv2 ?_ | refine svh (fun hb => ?_) (fun hb => ?_) | refine svb (fun b => ?_) | refine sva ?_ | refine sv3 ?_))
    refine R2.T ?_ (hp := .l rfl (pur_index_arr_rq (q := 2) (nn := 4) rfl rfl rfl (by decide)).pur)
    (repeat' (first | (refine iS ?_; refine iMu ?_; refine S.mapU ?_) | refine svz ⟨fun b hq => ?_⟩ | refine sv1 ?_ | refine svs ⟨?_⟩ | refine svu ⟨fun u => ?_⟩ | (refine svg (fun hg => ?_) (fun hg => ?_) <;> try (exfalso; first | omega | contradiction)) | (refine svc (fun hc => ?_) (fun hc => ?_) <;> try (exfalso; first | omega | contradiction)) | refine sv2 ?_ | refine svh (fun hb => ?_) (fun hb => ?_) | refine svb (fun b => ?_) | refine sva ?_ | refine sv3 ?_))
    refine R2.T ?_ (hp := .l rfl (pur_index_arr_rq (q := 3) (nn := 4) rfl rfl rfl (by decide)).pur)
    (repeat' (first | (refine iS ?_; refine iMu ?_; refine S.mapU ?_) | refine svz ⟨fun b hq => ?_⟩ | refine sv1 ?_ | refine svs ⟨?_⟩ | refine svu ⟨fun u => ?_⟩ | (refine svg (fun hg => ?_) (fun hg => ?_) <;> try (exfalso; first | omega | contradiction)) | (refine svc (fun hc => ?_) (fun hc => ?_) <;> try (exfalso; first | omega | contradiction)) | refine sv2 ?_ | refine svh (fun hb => ?_) (fun hb => ?_) | refine svb (fun b => ?_) | refine sva ?_ | refine sv3 ?_))
    exact ⟨(k + 1, u), hlt, by dsimp only; rw [hs, List.map_append]; exact lee, by dsimp only; omega⟩
  · rw [List.take_of_length_le hge]
    (repeat' (first | (refine iS ?_; refine iMu ?_; refine S.mapU ?_) | refine svz ⟨fun b hq => ?_⟩ | refine sv1 ?_ | refine svs ⟨?_⟩ | refine svu ⟨fun u => ?_⟩ | (refine svg (fun hg => ?_) (fun hg => ?_) <;> try (exfalso; first | omega | contradiction)) | (refine svc (fun hc => ?_) (fun hc => ?_) <;> try (exfalso; first | omega | contradiction)) | refine sv2 ?_ | refine svh (fun hb => ?_) (fun hb => ?_) | refine svb (fun b => ?_) | refine sva ?_ | refine sv3 ?_))
    exact fin_r (h' := _) ⟨v, rfl, rfl⟩
theorem rectsS_c (l : List Sq) (h : Heap) (hl : l.length ≤ 10) (ok : ∀ q ∈ l, q.ok) : ACalls Try.prog 11 [.ro 4 (l.map Sq.enc)] h (fun r h' => r = .ro 4 ((l.map Sq.rc).map RC.enc) ∧ h' = h) := by
  refine (rectsS_c0 l h hl ok).frzo ?_
  rintro r h' ⟨v, rfl, rfl⟩
  exact .inr ⟨v, 4, _, _, _, h, .here, .hit, rfl, rfl⟩
end Go.Proofs.Ytdknjjgmmmmfjaa
