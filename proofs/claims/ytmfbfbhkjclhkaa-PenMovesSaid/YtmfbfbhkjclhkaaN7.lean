/- Pens: the fields that Change sets. No condition. -/
import Derived.Test.YtmfbfbhkjclhkaaN2
import Derived.Test.YtmfbfbhkjclhkaaN10
namespace Go.Proofs.Ytmfbfbhkjclhkaa
open Go Go.VM
attribute [local irreducible] PurV Pur Step RL W D ACalls Then InBlock Fini
set_option linter.unusedVariables false
set_option linter.unusedSimpArgs false
set_option maxHeartbeats 20000000
def PN.cells (p : PN) : List AV := [.val (.int .i64 (p.fn)), .val (.int .u8 (p.pl)), .val (.int .u8 (p.fo)), .val (.int .u8 (p.ba)), .val (.int .u32 p.ft), .val (.int .i64 (p.x)), .val (.int .i64 (p.y)), .val (.bool p.cl), .ro 4 (p.clip.map RC.enc)]
instance tf_isfunc : TFun Try.prog 40 := ⟨by kernel_rfl⟩
instance tf_ispixel : TFun Try.prog 47 := ⟨by kernel_rfl⟩
instance tf_isid : TFun Try.prog 51 := ⟨by kernel_rfl⟩
instance tf_set0 : TFun Try.prog 46 := ⟨by kernel_rfl⟩
instance tf_set1 : TFun Try.prog 48 := ⟨by kernel_rfl⟩
instance tf_set2 : TFun Try.prog 49 := ⟨by kernel_rfl⟩
instance tf_set3 : TFun Try.prog 50 := ⟨by kernel_rfl⟩
instance tf_set4 : TFun Try.prog 52 := ⟨by kernel_rfl⟩
def fieldsL : List AV := [.agg [.val (.func (.func 40) #[] #[]), .val (.int .i64 (10)), .val (.func (.func 46) #[] #[])], .agg [.val (.func (.func 47) #[] #[]), .val (.int .i64 (1)), .val (.func (.func 48) #[] #[])], .agg [.val (.func (.func 47) #[] #[]), .val (.int .i64 (1)), .val (.func (.func 49) #[] #[])], .agg [.val (.func (.func 47) #[] #[]), .val (.int .i64 (1)), .val (.func (.func 50) #[] #[])], .agg [.val (.func (.func 51) #[] #[]), .val (.int .i64 (1)), .val (.func (.func 52) #[] #[])]]
set_option maxRecDepth 100000 in
theorem fields_c0 (h : Heap) : ACalls Try.prog 32 [] h (fun r h' => ∃ v, r = .val v ∧ h' = .own v 3 fieldsL 71 :: h) := by
  unfold fieldsL
  refine ACalls.intro Try.func32 rfl Try.ntmps32 Try.results32 (Nat.le_of_ble_eq_true rfl) ?_
  (repeat' (first | (refine iS ?_; refine iMu ?_; refine S.mapU ?_) | refine svz ⟨fun b hq => ?_⟩ | refine sv1 ?_ | refine svs ⟨?_⟩ | refine svu ⟨fun u => ?_⟩ | (refine svg (fun hg => ?_) (fun hg => ?_) <;> try (exfalso; first | omega | contradiction)) | (refine svc (fun hc => ?_) (fun hc => ?_) <;> try (exfalso; first | omega | contradiction)) | refine sv2 ?_ | refine svh (fun hb => ?_) (fun hb => ?_) | refine svb (fun b => ?_) | refine sva ?_ | refine sv3 ?_))
  refine S.buildSlice (xs := [.tmp 1, .tmp 2, .tmp 3, .tmp 4, .tmp 5]) (vs := fieldsL) rfl rfl (by repeat (first | exact Evals.nil | (apply Evals.cons; rfl))) (by simp [fieldsL, AV.cells]) (by repeat (first | exact Ones.nil | refine Ones.cons rfl ?_ | refine Ones.own (by (fail_if_success (apply memG)); repeat (first | exact List.Mem.head _ | assumption | refine List.Mem.tail _ ?_)) ?_)) (by simp [fieldsL]) rfl (fun u => ?_)
  (repeat' (first | (refine iS ?_; refine iMu ?_; refine S.mapU ?_) | refine svz ⟨fun b hq => ?_⟩ | refine sv1 ?_ | refine svs ⟨?_⟩ | refine svu ⟨fun u => ?_⟩ | (refine svg (fun hg => ?_) (fun hg => ?_) <;> try (exfalso; first | omega | contradiction)) | (refine svc (fun hc => ?_) (fun hc => ?_) <;> try (exfalso; first | omega | contradiction)) | refine sv2 ?_ | refine svh (fun hb => ?_) (fun hb => ?_) | refine svb (fun b => ?_) | refine sva ?_ | refine sv3 ?_))
  exact fin_r (h' := _) ⟨u, rfl, rfl⟩
theorem fields_c (h : Heap) : ACalls Try.prog 32 [] h (fun r h' => r = .ro 3 fieldsL ∧ h' = h) := by
  refine (fields_c0 h).frzo ?_
  rintro r h' ⟨v, rfl, rfl⟩
  exact .inr ⟨v, 3, _, _, _, h, .here, .hit, rfl, rfl⟩
set_option maxRecDepth 100000 in
theorem set0_c (p : PN) (b : Nat) (n : Int) (h : Heap) : ACalls Try.prog 46 [.val (.pointer (some ⟨b, 0, none⟩)), .val (.int .i64 (n))] (.box b p.cells 27 :: h) (fun r h' => r = .tup [] ∧ h' = .box b (setC 0 p n).cells 27 :: h) := by
  show ACalls Try.prog 46 [.val (.pointer (some ⟨b, 0, none⟩)), .val (.int .i64 (n))] (.box b [.val (.int .i64 (p.fn)), .val (.int .u8 (p.pl)), .val (.int .u8 (p.fo)), .val (.int .u8 (p.ba)), .val (.int .u32 p.ft), .val (.int .i64 (p.x)), .val (.int .i64 (p.y)), .val (.bool p.cl), .ro 4 (p.clip.map RC.enc)] 27 :: h) _
  refine ACalls.intro Try.func46 rfl Try.ntmps46 Try.results46 (Nat.le_of_ble_eq_true rfl) ?_
  (repeat' (first | (refine iS ?_; refine iMu ?_; refine S.mapU ?_) | refine svz ⟨fun b hq => ?_⟩ | refine sv1 ?_ | refine svs ⟨?_⟩ | refine svu ⟨fun u => ?_⟩ | (refine svg (fun hg => ?_) (fun hg => ?_) <;> try (exfalso; first | omega | contradiction)) | (refine svc (fun hc => ?_) (fun hc => ?_) <;> try (exfalso; first | omega | contradiction)) | refine sv2 ?_ | refine svh (fun hb => ?_) (fun hb => ?_) | refine svb (fun b => ?_) | refine sva ?_ | refine sv3 ?_))
  exact fin_n (h' := .box b (setC 0 p n).cells 27 :: h) ⟨rfl, rfl⟩
set_option maxRecDepth 100000 in
theorem set1_c (p : PN) (b : Nat) (n : Int) (h : Heap) (hn : 0 ≤ n ∧ n ≤ 255) : ACalls Try.prog 48 [.val (.pointer (some ⟨b, 0, none⟩)), .val (.int .i64 (n))] (.box b p.cells 27 :: h) (fun r h' => r = .tup [] ∧ h' = .box b (setC 1 p n).cells 27 :: h) := by
  show ACalls Try.prog 48 [.val (.pointer (some ⟨b, 0, none⟩)), .val (.int .i64 (n))] (.box b [.val (.int .i64 (p.fn)), .val (.int .u8 (p.pl)), .val (.int .u8 (p.fo)), .val (.int .u8 (p.ba)), .val (.int .u32 p.ft), .val (.int .i64 (p.x)), .val (.int .i64 (p.y)), .val (.bool p.cl), .ro 4 (p.clip.map RC.enc)] 27 :: h) _
  refine ACalls.intro Try.func48 rfl Try.ntmps48 Try.results48 (Nat.le_of_ble_eq_true rfl) ?_
  (repeat' (first | (refine iS ?_; refine iMu ?_; refine S.mapU ?_) | refine svz ⟨fun b hq => ?_⟩ | refine sv1 ?_ | refine svs ⟨?_⟩ | refine svu ⟨fun u => ?_⟩ | (refine svg (fun hg => ?_) (fun hg => ?_) <;> try (exfalso; first | omega | contradiction)) | (refine svc (fun hc => ?_) (fun hc => ?_) <;> try (exfalso; first | omega | contradiction)) | refine sv2 ?_ | refine svh (fun hb => ?_) (fun hb => ?_) | refine svb (fun b => ?_) | refine sva ?_ | refine sv3 ?_))
  exact fin_n (h' := .box b (setC 1 p n).cells 27 :: h) ⟨rfl, rfl⟩
set_option maxRecDepth 100000 in
theorem set2_c (p : PN) (b : Nat) (n : Int) (h : Heap) (hn : 0 ≤ n ∧ n ≤ 255) : ACalls Try.prog 49 [.val (.pointer (some ⟨b, 0, none⟩)), .val (.int .i64 (n))] (.box b p.cells 27 :: h) (fun r h' => r = .tup [] ∧ h' = .box b (setC 2 p n).cells 27 :: h) := by
  show ACalls Try.prog 49 [.val (.pointer (some ⟨b, 0, none⟩)), .val (.int .i64 (n))] (.box b [.val (.int .i64 (p.fn)), .val (.int .u8 (p.pl)), .val (.int .u8 (p.fo)), .val (.int .u8 (p.ba)), .val (.int .u32 p.ft), .val (.int .i64 (p.x)), .val (.int .i64 (p.y)), .val (.bool p.cl), .ro 4 (p.clip.map RC.enc)] 27 :: h) _
  refine ACalls.intro Try.func49 rfl Try.ntmps49 Try.results49 (Nat.le_of_ble_eq_true rfl) ?_
  (repeat' (first | (refine iS ?_; refine iMu ?_; refine S.mapU ?_) | refine svz ⟨fun b hq => ?_⟩ | refine sv1 ?_ | refine svs ⟨?_⟩ | refine svu ⟨fun u => ?_⟩ | (refine svg (fun hg => ?_) (fun hg => ?_) <;> try (exfalso; first | omega | contradiction)) | (refine svc (fun hc => ?_) (fun hc => ?_) <;> try (exfalso; first | omega | contradiction)) | refine sv2 ?_ | refine svh (fun hb => ?_) (fun hb => ?_) | refine svb (fun b => ?_) | refine sva ?_ | refine sv3 ?_))
  exact fin_n (h' := .box b (setC 2 p n).cells 27 :: h) ⟨rfl, rfl⟩
set_option maxRecDepth 100000 in
theorem set3_c (p : PN) (b : Nat) (n : Int) (h : Heap) (hn : 0 ≤ n ∧ n ≤ 255) : ACalls Try.prog 50 [.val (.pointer (some ⟨b, 0, none⟩)), .val (.int .i64 (n))] (.box b p.cells 27 :: h) (fun r h' => r = .tup [] ∧ h' = .box b (setC 3 p n).cells 27 :: h) := by
  show ACalls Try.prog 50 [.val (.pointer (some ⟨b, 0, none⟩)), .val (.int .i64 (n))] (.box b [.val (.int .i64 (p.fn)), .val (.int .u8 (p.pl)), .val (.int .u8 (p.fo)), .val (.int .u8 (p.ba)), .val (.int .u32 p.ft), .val (.int .i64 (p.x)), .val (.int .i64 (p.y)), .val (.bool p.cl), .ro 4 (p.clip.map RC.enc)] 27 :: h) _
  refine ACalls.intro Try.func50 rfl Try.ntmps50 Try.results50 (Nat.le_of_ble_eq_true rfl) ?_
  (repeat' (first | (refine iS ?_; refine iMu ?_; refine S.mapU ?_) | refine svz ⟨fun b hq => ?_⟩ | refine sv1 ?_ | refine svs ⟨?_⟩ | refine svu ⟨fun u => ?_⟩ | (refine svg (fun hg => ?_) (fun hg => ?_) <;> try (exfalso; first | omega | contradiction)) | (refine svc (fun hc => ?_) (fun hc => ?_) <;> try (exfalso; first | omega | contradiction)) | refine sv2 ?_ | refine svh (fun hb => ?_) (fun hb => ?_) | refine svb (fun b => ?_) | refine sva ?_ | refine sv3 ?_))
  exact fin_n (h' := .box b (setC 3 p n).cells 27 :: h) ⟨rfl, rfl⟩
set_option maxRecDepth 100000 in
theorem set4_c (p : PN) (b : Nat) (n : Int) (h : Heap) (hn : 0 ≤ n ∧ n ≤ 4294967295) : ACalls Try.prog 52 [.val (.pointer (some ⟨b, 0, none⟩)), .val (.int .i64 (n))] (.box b p.cells 27 :: h) (fun r h' => r = .tup [] ∧ h' = .box b (setC 4 p n).cells 27 :: h) := by
  show ACalls Try.prog 52 [.val (.pointer (some ⟨b, 0, none⟩)), .val (.int .i64 (n))] (.box b [.val (.int .i64 (p.fn)), .val (.int .u8 (p.pl)), .val (.int .u8 (p.fo)), .val (.int .u8 (p.ba)), .val (.int .u32 p.ft), .val (.int .i64 (p.x)), .val (.int .i64 (p.y)), .val (.bool p.cl), .ro 4 (p.clip.map RC.enc)] 27 :: h) _
  refine ACalls.intro Try.func52 rfl Try.ntmps52 Try.results52 (Nat.le_of_ble_eq_true rfl) ?_
  (repeat' (first | (refine iS ?_; refine iMu ?_; refine S.mapU ?_) | refine svz ⟨fun b hq => ?_⟩ | refine sv1 ?_ | refine svs ⟨?_⟩ | refine svu ⟨fun u => ?_⟩ | (refine svg (fun hg => ?_) (fun hg => ?_) <;> try (exfalso; first | omega | contradiction)) | (refine svc (fun hc => ?_) (fun hc => ?_) <;> try (exfalso; first | omega | contradiction)) | refine sv2 ?_ | refine svh (fun hb => ?_) (fun hb => ?_) | refine svb (fun b => ?_) | refine sva ?_ | refine sv3 ?_))
  exact fin_n (h' := .box b (setC 4 p n).cells 27 :: h) ⟨rfl, rfl⟩
end Go.Proofs.Ytmfbfbhkjclhkaa
