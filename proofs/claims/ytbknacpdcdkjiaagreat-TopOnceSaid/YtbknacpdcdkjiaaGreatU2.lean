import Derived.Test.YtbknacpdcdkjiaaGreatU1
import Derived.Laws.Cover3
namespace Go.VM
open Go
set_option linter.unusedVariables false
set_option linter.unusedSimpArgs false
section
variable {ro:Option Nat} {P:Program} {d:Option Nat} {ty:Nat} {pos:String} {af:Array Edge} {gd:Option (Nat × Bool)} {tm:List (Nat × AV)} {h:Heap} {x:Operand}
theorem loadA_all {n:Nat} {l:List AV} (h:l.length=n):loadA true n l 0=some (.agg l):=by
 simp only[loadA,Nat.zero_add,h]
 rw[if_pos (Nat.le_refl _)]
 simp[←h]
theorem pur_load_epA {lt k i e:Nat} {l cs:List AV} {el:AV} {s:Value} [hv:TVal P lt true k] (hx:evalA tm x=some (.ep s k i 0)) (hb:OE.own s k l e∈h) (he:l[i]?=some el) (ha:el=.agg cs) (hn:cs.length=k) :
  Pur P ⟨d,.load lt x,ty,pos,af,gd⟩ tm h el:=by
 subst ha
 exact pur_load_ep hx hb he (loadA_all hn)
theorem pur_load_rpA {lt k i:Nat} {l cs:List AV} {el:AV} [hv:TVal P lt true k] (hx:evalA tm x=some (.rp k l i 0)) (he:l[i]?=some el) (ha:el=.agg cs) (hn:cs.length=k) :
  Pur P ⟨d,.load lt x,ty,pos,af,gd⟩ tm h el:=by
 subst ha
 exact pur_load_rp hx he (loadA_all hn)
end
theorem Sim.len {m0:GF} {w0:World} {s:St} {a:Act} {w:World} (hs:Sim m0 w0 s a w) {i k:Nat} {l:List AV} (h:get s.t i=some (.ro k l)):l.length≤9223372036854775807:=by
 obtain⟨m,hm⟩:=hs
 obtain⟨u,_,hu⟩:=hm.tmps i _ h
 simp only[Rel] at hu
 obtain⟨A,c,_,h1,h2,_⟩:=hu
 simp only[maxLen] at h2
 omega
theorem W.len (i:Nat) {ro:Option Nat} {P:Program} {c:Code} {Q:Exit→St→Prop} {s:St} {k:Nat} {l:List AV} (h:get s.t i=some (.ro k l)) (hw:l.length≤9223372036854775807→W ro P c Q s):W ro P c Q s:=
 fun m0 w0 a w hs=>hw (hs.len h) m0 w0 a w hs
def ints (k:IntKind) (xs:List Int):List AV:=xs.map fun n=>.val (.int k n)
theorem len_ints (k:IntKind) (xs:List Int):(ints k xs).length=xs.length:=by simp[ints]
theorem at_map {α:Type} {f:α→AV} {l:List α} {i:Nat} {x:α} (h:l[i]?=some x):(l.map f)[i]?=some (f x):=by rw[List.getElem?_map,h];rfl
theorem at_mapN {α:Type} {f:α→AV} {l:List α} {i:Nat} (h:i<l.length):(l.map f)[i]?=some (f (l[i]'h)):=by rw[List.getElem?_map,List.getElem?_eq_getElem h];rfl
theorem at_ints {k:IntKind} {xs:List Int} {i:Nat} {x:Int} (h:xs[i]?=some x):(ints k xs)[i]?=some (.val (.int k x)):=at_map h
theorem at_intsN {k:IntKind} {xs:List Int} {i:Nat} (h:i<xs.length):(ints k xs)[i]?=some (.val (.int k xs[i])):=at_mapN h
inductive Pl:Heap→OE→(OE→Heap)→Prop
 | here {x:OE} {r:Heap}:Pl (x::r) x (fun y=>y::r)
 | there {x z:OE} {r:Heap} {f:OE→Heap} (h:Pl r x f):Pl (z::r) x (fun y=>z::f y)
theorem Pl.up {h:Heap} {x:OE} {f:OE→Heap} (k:Pl h x f) (y:OE):Up h x y (f y):=by
 induction k with
 | here=>exact .here
 | there _ ih=>exact .there ih
theorem Pl.mem {h:Heap} {x:OE} {f:OE→Heap} (k:Pl h x f):x∈h:=(k.up x).old
section
variable {ro:Option Nat} {P:Program} {ops:Array Oper} {rest:List Oper} {n:Nat} {t:List (Nat × AV)} {h h':Heap} {K:St→Prop} {o:Oper}
variable {d:Nat} {ty:Nat} {pos:String} {af:Array Edge} {gd:Option (Nat × Bool)} {x y:Operand}
theorem pur_pick_tp {d:Option Nat} {c:Operand} {p:Prop} {dp:Decidable p} {v:AV} (hc:evalA t c=some (.val (.bool (@decide p dp)))) (hb:p) (hx:evalA t x=some v):PurV P ⟨d,.pick c x y,ty,pos,af,gd⟩ t h v:=pur_pick_t hc (by simpa using hb) hx
theorem pur_pick_fp {d:Option Nat} {c:Operand} {p:Prop} {dp:Decidable p} {v:AV} (hc:evalA t c=some (.val (.bool (@decide p dp)))) (hb:¬ p) (hx:evalA t y=some v):PurV P ⟨d,.pick c x y,ty,pos,af,gd⟩ t h v:=pur_pick_f hc (by simpa using hb) hx
theorem memG (hf:False) {o:OE}:o∈([]:Heap):=hf.elim
theorem jB {d:Option Nat} {op:BinOp} {xt yt:Nat} {v:AV} (k:PurV P ⟨d,.binOp op xt x y yt,ty,pos,af,gd⟩ t h v):PurV P ⟨d,.binOp op xt x y yt,ty,pos,af,gd⟩ t h v:=k
theorem jF {d:Option Nat} {xt i:Nat} {v:AV} (k:PurV P ⟨d,.fieldAddr xt x i,ty,pos,af,gd⟩ t h v):PurV P ⟨d,.fieldAddr xt x i,ty,pos,af,gd⟩ t h v:=k
theorem jI {d:Option Nat} {xt:Nat} {v:AV} (k:PurV P ⟨d,.indexAddr xt x y,ty,pos,af,gd⟩ t h v):PurV P ⟨d,.indexAddr xt x y,ty,pos,af,gd⟩ t h v:=k
theorem jC {d:Option Nat} {b:Builtin} {ar:Array Operand} {ts:Array Nat} {v:AV} (k:PurV P ⟨d,.call ⟨.builtin b,ar,ts⟩,ty,pos,af,gd⟩ t h v):PurV P ⟨d,.call ⟨.builtin b,ar,ts⟩,ty,pos,af,gd⟩ t h v:=k
theorem jM {d:Option Nat}  {v:AV} (k:PurV P ⟨d,.move x,ty,pos,af,gd⟩ t h v):PurV P ⟨d,.move x,ty,pos,af,gd⟩ t h v:=k
theorem jA {d:Option Nat}  {v:AV} (k:PurV P ⟨d,.assign x,ty,pos,af,gd⟩ t h v):PurV P ⟨d,.assign x,ty,pos,af,gd⟩ t h v:=k
theorem jX {d:Option Nat} {i:Nat} {v:AV} (k:PurV P ⟨d,.extract x i,ty,pos,af,gd⟩ t h v):PurV P ⟨d,.extract x i,ty,pos,af,gd⟩ t h v:=k
theorem jD {d:Option Nat} {xt i:Nat} {v:AV} (k:PurV P ⟨d,.field xt x i,ty,pos,af,gd⟩ t h v):PurV P ⟨d,.field xt x i,ty,pos,af,gd⟩ t h v:=k
theorem jV {d:Option Nat} {xt yt:Nat} {v:AV} (k:PurV P ⟨d,.convert xt yt x,ty,pos,af,gd⟩ t h v):PurV P ⟨d,.convert xt yt x,ty,pos,af,gd⟩ t h v:=k
theorem jBu {d:Option Nat} {xt:Nat} {ps:Array (Nat × Operand)} {v:AV} (k:PurV P ⟨d,.build xt ps,ty,pos,af,gd⟩ t h v):PurV P ⟨d,.build xt ps,ty,pos,af,gd⟩ t h v:=k
theorem jMk {d:Option Nat} {f:Fn} {a b:Array Operand} {v:AV} (k:PurV P ⟨d,.makeFunc f a b,ty,pos,af,gd⟩ t h v):PurV P ⟨d,.makeFunc f a b,ty,pos,af,gd⟩ t h v:=k
theorem jB_lss {d:Option Nat} {xt yt:Nat} {v:AV} (k:PurV P ⟨d,.binOp .lss xt x y yt,ty,pos,af,gd⟩ t h v):PurV P ⟨d,.binOp .lss xt x y yt,ty,pos,af,gd⟩ t h v:=k
theorem jB_eql {d:Option Nat} {xt yt:Nat} {v:AV} (k:PurV P ⟨d,.binOp .eql xt x y yt,ty,pos,af,gd⟩ t h v):PurV P ⟨d,.binOp .eql xt x y yt,ty,pos,af,gd⟩ t h v:=k
theorem jB_add {d:Option Nat} {xt yt:Nat} {v:AV} (k:PurV P ⟨d,.binOp .add xt x y yt,ty,pos,af,gd⟩ t h v):PurV P ⟨d,.binOp .add xt x y yt,ty,pos,af,gd⟩ t h v:=k
theorem jB_neq {d:Option Nat} {xt yt:Nat} {v:AV} (k:PurV P ⟨d,.binOp .neq xt x y yt,ty,pos,af,gd⟩ t h v):PurV P ⟨d,.binOp .neq xt x y yt,ty,pos,af,gd⟩ t h v:=k
theorem jB_sub {d:Option Nat} {xt yt:Nat} {v:AV} (k:PurV P ⟨d,.binOp .sub xt x y yt,ty,pos,af,gd⟩ t h v):PurV P ⟨d,.binOp .sub xt x y yt,ty,pos,af,gd⟩ t h v:=k
theorem jB_leq {d:Option Nat} {xt yt:Nat} {v:AV} (k:PurV P ⟨d,.binOp .leq xt x y yt,ty,pos,af,gd⟩ t h v):PurV P ⟨d,.binOp .leq xt x y yt,ty,pos,af,gd⟩ t h v:=k
theorem jB_gtr {d:Option Nat} {xt yt:Nat} {v:AV} (k:PurV P ⟨d,.binOp .gtr xt x y yt,ty,pos,af,gd⟩ t h v):PurV P ⟨d,.binOp .gtr xt x y yt,ty,pos,af,gd⟩ t h v:=k
theorem jB_geq {d:Option Nat} {xt yt:Nat} {v:AV} (k:PurV P ⟨d,.binOp .geq xt x y yt,ty,pos,af,gd⟩ t h v):PurV P ⟨d,.binOp .geq xt x y yt,ty,pos,af,gd⟩ t h v:=k
theorem jB_mul {d:Option Nat} {xt yt:Nat} {v:AV} (k:PurV P ⟨d,.binOp .mul xt x y yt,ty,pos,af,gd⟩ t h v):PurV P ⟨d,.binOp .mul xt x y yt,ty,pos,af,gd⟩ t h v:=k
theorem jB_shl {d:Option Nat} {xt yt:Nat} {v:AV} (k:PurV P ⟨d,.binOp .shl xt x y yt,ty,pos,af,gd⟩ t h v):PurV P ⟨d,.binOp .shl xt x y yt,ty,pos,af,gd⟩ t h v:=k
theorem jB_rem {d:Option Nat} {xt yt:Nat} {v:AV} (k:PurV P ⟨d,.binOp .rem xt x y yt,ty,pos,af,gd⟩ t h v):PurV P ⟨d,.binOp .rem xt x y yt,ty,pos,af,gd⟩ t h v:=k
theorem jP {d:Option Nat} {c:Operand} {v:AV} (k:PurV P ⟨d,.pick c x y,ty,pos,af,gd⟩ t h v):PurV P ⟨d,.pick c x y,ty,pos,af,gd⟩ t h v:=k
theorem jU {d:Option Nat} {op:UnOp} {xt:Nat} {v:AV} (k:PurV P ⟨d,.unOp op xt x,ty,pos,af,gd⟩ t h v):PurV P ⟨d,.unOp op xt x,ty,pos,af,gd⟩ t h v:=k
theorem jS {d:Option Nat} {xt:Nat} {a b c:Option Operand} {v:AV} (k:PurV P ⟨d,.slice xt x a b c,ty,pos,af,gd⟩ t h v):PurV P ⟨d,.slice xt x a b c,ty,pos,af,gd⟩ t h v:=k
theorem iR {s:St} (k:RL ro P ops rest s K):RL ro P ops rest s K:=k
theorem iS {s:St} (k:Step P o s K):Step P o s K:=k
theorem iW {c:Code} {Q:Exit→St→Prop} {s:St} (k:W ro P c Q s):W ro P c Q s:=k
theorem iL {d:Option Nat} {s:St} {lt:Nat} (k:Step P ⟨d,.load lt x,ty,pos,af,gd⟩ s K):Step P ⟨d,.load lt x,ty,pos,af,gd⟩ s K:=k
theorem iC {d:Option Nat} {s:St} {a:Array Operand} {b:Array Nat} (k:Step P ⟨d,.call ⟨.builtin .append,a,b⟩,ty,pos,af,gd⟩ s K):Step P ⟨d,.call ⟨.builtin .append,a,b⟩,ty,pos,af,gd⟩ s K:=k
theorem iT {d:Option Nat} {s:St} {lt:Nat} (k:Step P ⟨d,.store lt x y,ty,pos,af,gd⟩ s K):Step P ⟨d,.store lt x y,ty,pos,af,gd⟩ s K:=k
theorem iA {d:Option Nat} {s:St} {lt:Nat} (k:Step P ⟨d,.alloc lt,ty,pos,af,gd⟩ s K):Step P ⟨d,.alloc lt,ty,pos,af,gd⟩ s K:=k
theorem iX {d:Option Nat} {s:St} {lt:Nat} (k:Step P ⟨d,.box lt x,ty,pos,af,gd⟩ s K):Step P ⟨d,.box lt x,ty,pos,af,gd⟩ s K:=k
theorem iN {d:Option Nat} {s:St} {lt m:Nat} {ps:Array (Nat × Operand)} (k:Step P ⟨d,.buildSlice lt m ps,ty,pos,af,gd⟩ s K):Step P ⟨d,.buildSlice lt m ps,ty,pos,af,gd⟩ s K:=k
theorem iK {d:Option Nat} {s:St} {lt:Nat} (k:Step P ⟨d,.makeSlice lt x y,ty,pos,af,gd⟩ s K):Step P ⟨d,.makeSlice lt x y,ty,pos,af,gd⟩ s K:=k
theorem iY {d:Option Nat} {s:St} {a:Array Operand} {b:Array Nat} (k:Step P ⟨d,.call ⟨.builtin .copy,a,b⟩,ty,pos,af,gd⟩ s K):Step P ⟨d,.call ⟨.builtin .copy,a,b⟩,ty,pos,af,gd⟩ s K:=k
/-! ### The walk's own words: states written out -/
theorem vV {P:Program} {o:Oper} {t:List (Nat × AV)} {h:Heap} {v:AV} (hp:PurV P o t h v:=by first|(first|(apply jM;exact pur_move rfl)|(apply jA;exact pur_assign rfl)|(apply jB;first|(apply jB_lss;exact pur_lss rfl rfl)|(apply jB_eql;exact pur_eql rfl rfl)|(apply jB_add;exact pur_add rfl rfl (by first|exact wrap_i64 (by omega) (by omega)|exact wrap_u32 (by omega) (by omega)|exact wrap_u8 (by omega) (by omega)|exact wrap_u16 (by omega) (by omega)|exact wrap_u64 (by omega) (by omega)|exact wrap_i32 (by omega) (by omega)|exact rfl))|(apply jB_neq;exact pur_neq rfl rfl)|(apply jB_sub;exact pur_sub rfl rfl (by first|exact wrap_i64 (by omega) (by omega)|exact wrap_u32 (by omega) (by omega)|exact wrap_u8 (by omega) (by omega)|exact wrap_u16 (by omega) (by omega)|exact wrap_u64 (by omega) (by omega)|exact wrap_i32 (by omega) (by omega)|exact rfl))|(apply jB_leq;exact pur_leq rfl rfl)|(apply jB_gtr;exact pur_gtr rfl rfl)|(apply jB_geq;exact pur_geq rfl rfl)|(apply jB_mul;exact pur_mul rfl rfl (by first|exact wrap_i64 (by omega) (by omega)|exact wrap_u32 (by omega) (by omega)|exact wrap_u8 (by omega) (by omega)|exact wrap_u16 (by omega) (by omega)|exact wrap_u64 (by omega) (by omega)|exact wrap_i32 (by omega) (by omega)|exact rfl))|(apply jB_shl;exact pur_shl rfl rfl (by omega) rfl)|(apply jB_shr;exact pur_shr rfl rfl (by omega) rfl)|(apply jB_quo;exact pur_quo rfl rfl (by omega) (by first|exact wrap_quo (by omega) (by omega) (by omega)|exact rfl))|(apply jB_rem;exact pur_rem rfl rfl (by omega) (by first|exact tmod_nn (by omega)|exact rfl))|exact pur_bits rfl rfl rfl rfl)|(apply jF;first|exact pur_fieldAddr00 rfl|exact pur_fieldAddr rfl|exact pur_fieldAddr_rp rfl|exact pur_fieldAddr_ep rfl)|(apply jI;first|exact pur_index_ro rfl rfl (by first|exact rfl|exact (Int.toNat_of_nonneg (by omega)).symm) (by first|omega|(simp only[ints,splice,List.length_map,List.length_append,List.length_cons,List.length_nil,List.length_take,List.length_drop,List.length_set,List.length_replicate];omega))|exact pur_index_own rfl (by (fail_if_success (apply memG));repeat (first|exact List.Mem.head _|assumption|refine List.Mem.tail _ ?_)) rfl (by first|exact rfl|exact (Int.toNat_of_nonneg (by omega)).symm) (by first|omega|(simp only[ints,splice,List.length_map,List.length_append,List.length_cons,List.length_nil,List.length_take,List.length_drop,List.length_set,List.length_replicate];omega))|exact pur_index_vw rfl rfl (by first|exact rfl|exact (Int.toNat_of_nonneg (by omega)).symm) (by first|omega|(simp only[ints,splice,List.length_map,List.length_append,List.length_cons,List.length_nil,List.length_take,List.length_drop,List.length_set,List.length_replicate];omega)))|(apply jX;exact pur_extract rfl rfl)|(apply jC;first|exact pur_len rfl (by first|exact SrcA.ro _|exact SrcA.own (by (fail_if_success (apply memG));repeat (first|exact List.Mem.head _|assumption|refine List.Mem.tail _ ?_))|exact SrcA.vw (by (fail_if_success (apply memG));repeat (first|exact List.Mem.head _|assumption|refine List.Mem.tail _ ?_)) (by first|omega|(simp only[ints,splice,List.length_map,List.length_append,List.length_cons,List.length_nil,List.length_take,List.length_drop,List.length_set,List.length_replicate];omega))|exact SrcA.emp|exact SrcA.nil|exact SrcA.all (by assumption)) (by first|exact len_ints _ _|exact List.length_map _|(simp only[ints,splice,List.length_map,List.length_append,List.length_cons,List.length_nil,List.length_take,List.length_drop,List.length_set,List.length_replicate];rfl)|rfl)|exact pur_len_vw rfl|exact pur_len_str rfl|exact pur_min rfl rfl|exact pur_max rfl rfl|exact pur_min3 rfl rfl rfl|exact pur_max3 rfl rfl rfl)|(apply jP;first|exact pur_pick_tp rfl (by first|assumption|omega) rfl|exact pur_pick_fp rfl (by first|assumption|omega) rfl|exact pur_pick_f rfl (by rfl) rfl|exact pur_pick_t rfl (by rfl) rfl)|(apply jU;first|exact pur_not rfl|exact pur_notb rfl|exact pur_neg rfl (by first|exact wrap_i64 (by omega) (by omega)|exact wrap_u32 (by omega) (by omega)|exact wrap_u8 (by omega) (by omega)|exact wrap_u16 (by omega) (by omega)|exact wrap_u64 (by omega) (by omega)|exact wrap_i32 (by omega) (by omega)|exact rfl))|(apply jD;exact pur_field rfl rfl)|(apply jV;exact pur_conv rfl (by first|exact wrap_i64 (by omega) (by omega)|exact wrap_u32 (by omega) (by omega)|exact wrap_u8 (by omega) (by omega)|exact wrap_u16 (by omega) (by omega)|exact wrap_u64 (by omega) (by omega)|exact wrap_i32 (by omega) (by omega)|exact rfl))|(apply jBu;exact pur_build (by repeat (first|exact EvalP.nil|(apply EvalP.cons;rfl))) (by rfl))|(apply jS;first|exact pur_slice_ro rfl (by first|exact rfl|exact⟨_,_,rfl,(by first|exact rfl|exact (Int.toNat_of_nonneg (by omega)).symm)⟩) (by first|exact rfl|exact⟨_,_,rfl,(by first|exact rfl|exact (Int.toNat_of_nonneg (by omega)).symm)⟩) (by first|omega|(simp only[ints,splice,List.length_map,List.length_append,List.length_cons,List.length_nil,List.length_take,List.length_drop,List.length_set,List.length_replicate];omega)) (by first|omega|(simp only[ints,splice,List.length_map,List.length_append,List.length_cons,List.length_nil,List.length_take,List.length_drop,List.length_set,List.length_replicate];omega))|exact pur_slice_own rfl (by (fail_if_success (apply memG));repeat (first|exact List.Mem.head _|assumption|refine List.Mem.tail _ ?_)) (by first|exact rfl|exact⟨_,_,rfl,(by first|exact rfl|exact (Int.toNat_of_nonneg (by omega)).symm)⟩) (by first|exact rfl|exact⟨_,_,rfl,(by first|exact rfl|exact (Int.toNat_of_nonneg (by omega)).symm)⟩) (by first|omega|(simp only[ints,splice,List.length_map,List.length_append,List.length_cons,List.length_nil,List.length_take,List.length_drop,List.length_set,List.length_replicate];omega)) (by first|omega|(simp only[ints,splice,List.length_map,List.length_append,List.length_cons,List.length_nil,List.length_take,List.length_drop,List.length_set,List.length_replicate];omega))|exact pur_slice_vw rfl (by first|exact rfl|exact⟨_,_,rfl,(by first|exact rfl|exact (Int.toNat_of_nonneg (by omega)).symm)⟩) (by first|exact rfl|exact⟨_,_,rfl,(by first|exact rfl|exact (Int.toNat_of_nonneg (by omega)).symm)⟩) (by first|omega|(simp only[ints,splice,List.length_map,List.length_append,List.length_cons,List.length_nil,List.length_take,List.length_drop,List.length_set,List.length_replicate];omega)) (by first|omega|(simp only[ints,splice,List.length_map,List.length_append,List.length_cons,List.length_nil,List.length_take,List.length_drop,List.length_set,List.length_replicate];omega)))|(apply jMk;exact pur_makeFunc (by repeat (first|exact Evals.nil|(apply Evals.cons;rfl)))))|fail):PurV P o t h v:=hp
theorem S.V {v:AV} (k:K ⟨n,(d,v)::t,h⟩) (hp:PurV P o t h v:=by first|exact vV|fail) (hd:o.dst=some d:=by rfl) (hn:Nat.blt d n=true:=by rfl):Step P o ⟨n,t,h⟩ K:=by
 refine step_v (s:=⟨n,t,h⟩) hp (by rw[hd];exact hn) ?_
 rw[hd];exact k
theorem S.L {v:AV} (k:K ⟨n,(d,v)::t,h⟩) (hp:Pur P o t h v:=by first|exact pur_load_boxA rfl (by (fail_if_success (apply memG));repeat (first|exact List.Mem.head _|assumption|refine List.Mem.tail _ ?_)) rfl|exact pur_load_box rfl (by (fail_if_success (apply memG));repeat (first|exact List.Mem.head _|assumption|refine List.Mem.tail _ ?_)) rfl|exact pur_load_rpA rfl (by first|exact at_ints (by assumption)|exact at_intsN (by omega)|exact at_map (by assumption)|exact at_mapN (by omega)|rfl|assumption) rfl rfl|exact pur_load_rp rfl (by first|exact at_ints (by assumption)|exact at_intsN (by omega)|exact at_map (by assumption)|exact at_mapN (by omega)|rfl|assumption) rfl|exact pur_load_epA rfl (by (fail_if_success (apply memG));repeat (first|exact List.Mem.head _|assumption|refine List.Mem.tail _ ?_)) (by first|exact at_ints (by assumption)|exact at_intsN (by omega)|exact at_map (by assumption)|exact at_mapN (by omega)|rfl|assumption) rfl rfl|exact pur_load_ep rfl (by (fail_if_success (apply memG));repeat (first|exact List.Mem.head _|assumption|refine List.Mem.tail _ ?_)) (by first|exact at_ints (by assumption)|exact at_intsN (by omega)|exact at_map (by assumption)|exact at_mapN (by omega)|rfl|assumption) rfl) (hd:o.dst=some d:=by rfl) (hn:Nat.blt d n=true:=by rfl):Step P o ⟨n,t,h⟩ K:=by
 refine step_pur (s:=⟨n,t,h⟩) hp (by rw[hd];exact hn) ?_
 rw[hd];exact k
theorem RL.g {j g:Nat} {want:Bool} {p:Prop} {dp:Decidable p} (hg:o.guard=some (j,want)) (hj:(ops[j]?).bind (·.dst)=some g) (hgv:get t g=some (.val (.bool (@decide p dp)))) (hd:o.dst=some d) (hn:Nat.blt d n=true)
  (h1:(if want then p else ¬ p)→Step P o ⟨n,t,h⟩ (fun s'=>RL ro P ops rest s' K)) (h2:(if want then ¬ p else p)→RL ro P ops rest ⟨n,(d,.tup [])::t,h⟩ K) (hnd:noDefer o.op=true:=by rfl):RL ro P ops (o::rest) ⟨n,t,h⟩ K:=by
 refine RL.guarded hg hj hgv (fun hb=>h1 ?_) (by rw[hd];exact hn) (fun hb=>?_) hnd
 ·cases want<;>simp at hb ⊢<;>exact hb
 ·rw[hd]
  refine h2 ?_
  cases want<;>simp at hb ⊢<;>exact hb
theorem RL.ex {j g:Nat} {want b:Bool} (hg:o.guard=some (j,want)) (hj:(ops[j]?).bind (·.dst)=some g) (hgv:get t g=some (.val (.bool b))) (hb:b=want) (hd:o.dst=some d) (hn:Nat.blt d n=true)
  (h1:Step P o ⟨n,t,h⟩ (fun s'=>RL ro P ops rest s' K)) (hnd:noDefer o.op=true:=by rfl):RL ro P ops (o::rest) ⟨n,t,h⟩ K:=
 RL.guarded hg hj hgv (fun _=>h1) (by rw[hd];exact hn) (fun h=>absurd hb h) hnd
theorem RL.sk {j g:Nat} {want b:Bool} (hg:o.guard=some (j,want)) (hj:(ops[j]?).bind (·.dst)=some g) (hgv:get t g=some (.val (.bool b))) (hb:b=!want) (hd:o.dst=some d) (hn:Nat.blt d n=true)
  (h2:RL ro P ops rest ⟨n,(d,.tup [])::t,h⟩ K) (hnd:noDefer o.op=true:=by rfl):RL ro P ops (o::rest) ⟨n,t,h⟩ K:=
 RL.guarded hg hj hgv (fun h=>by subst h;cases b<;>simp at hb) (by rw[hd];exact hn) (fun h=>by rw[hd];exact h2) hnd
theorem RL.gt {j g:Nat} {p:Prop} {dp:Decidable p} (hg:o.guard=some (j,true)) (hj:(ops[j]?).bind (·.dst)=some g) (hgv:get t g=some (.val (.bool (@decide p dp)))) (hd:o.dst=some d) (hn:Nat.blt d n=true)
  (h1:p→Step P o ⟨n,t,h⟩ (fun s'=>RL ro P ops rest s' K)) (h2:¬ p→RL ro P ops rest ⟨n,(d,.tup [])::t,h⟩ K) (hnd:noDefer o.op=true:=by rfl):RL ro P ops (o::rest) ⟨n,t,h⟩ K:=RL.g hg hj hgv hd hn h1 h2 hnd
theorem RL.gf {j g:Nat} {p:Prop} {dp:Decidable p} (hg:o.guard=some (j,false)) (hj:(ops[j]?).bind (·.dst)=some g) (hgv:get t g=some (.val (.bool (@decide p dp)))) (hd:o.dst=some d) (hn:Nat.blt d n=true)
  (h1:¬ p→Step P o ⟨n,t,h⟩ (fun s'=>RL ro P ops rest s' K)) (h2:p→RL ro P ops rest ⟨n,(d,.tup [])::t,h⟩ K) (hnd:noDefer o.op=true:=by rfl):RL ro P ops (o::rest) ⟨n,t,h⟩ K:=RL.g hg hj hgv hd hn h1 h2 hnd
theorem S.alloc {e:Nat} {z:List AV} [hz:TZero P e z] (hK:∀b,K ⟨n,(d,.val (.pointer (some ⟨b,0,none⟩)))::t,.box b z e::h⟩) (hn:Nat.blt d n=true:=by rfl):Step P ⟨some d,.alloc e,ty,pos,af,gd⟩ ⟨n,t,h⟩ K:=step_alloc hn hK
theorem S.box {e:Nat} {v:AV} {l:List AV} (hK:∀b,K ⟨n,(d,.val (.pointer (some ⟨b,0,none⟩)))::t,.box b l e::h⟩) (hx:evalA t x=some v:=by rfl) (hl:v.cells=l:=by rfl) (hn:Nat.blt d n=true:=by rfl):Step P ⟨some d,.box e x,ty,pos,af,gd⟩ ⟨n,t,h⟩ K:=step_box hx hl hn hK
theorem S.store_whole {ty' m b bt:Nat} {g:Bool} {v:AV} {l ys:List AV} [hv:TVal P ty' g m] (hK:K ⟨n,t,h'⟩) (hx:evalA t x=some (.val (.pointer (some ⟨b,0,none⟩))):=by rfl) (hy:evalA t y=some v:=by rfl) (hu:Up h (.box b l bt) (.box b ys bt) h':=by (repeat (first|exact Up.here|assumption|apply Up.there))) (hc:v.cells=ys:=by rfl) (hn:ys.length=m:=by rfl) (hl:l.length=m:=by rfl) (h1:Ones h ys:=by (repeat (first|exact Ones.nil|refine Ones.cons rfl ?_|refine Ones.own (by (fail_if_success (apply memG));repeat (first|exact List.Mem.head _|assumption|refine List.Mem.tail _ ?_)) ?_))):Step P ⟨none,.store ty' x y,ty,pos,af,gd⟩ ⟨n,t,h⟩ K:=step_store_whole hx hy hc hn hl h1 hu rfl hK
theorem S.store_one {ty' b off bt:Nat} {g:Bool} {v:AV} {l l':List AV} [hv:TVal P ty' g 1] (hK:K ⟨n,t,h'⟩) (hx:evalA t x=some (.val (.pointer (some ⟨b,off,none⟩))):=by rfl) (hy:evalA t y=some v:=by rfl) (hu:Up h (.box b l bt) (.box b l' bt) h':=by (repeat (first|exact Up.here|assumption|apply Up.there))) (hc:v.cells=[v]:=by rfl) (h1:Ones h [v]:=by (repeat (first|exact Ones.nil|refine Ones.cons rfl ?_|refine Ones.own (by (fail_if_success (apply memG));repeat (first|exact List.Mem.head _|assumption|refine List.Mem.tail _ ?_)) ?_))) (hs:SetL l off v l':=by (repeat (first|exact SetL.here|apply SetL.there))):Step P ⟨none,.store ty' x y,ty,pos,af,gd⟩ ⟨n,t,h⟩ K:=step_store_one hx hy hc h1 hs hu rfl hK
theorem S.store_any {ty' m b off bt:Nat} {g:Bool} {v:AV} {l ys:List AV} [hv:TVal P ty' g m] (hK:K ⟨n,t,h'⟩) (hx:evalA t x=some (.val (.pointer (some ⟨b,off,none⟩))):=by rfl) (hy:evalA t y=some v:=by rfl) (hu:Up h (.box b l bt) (.box b (l.take off++ys++l.drop (off+m)) bt) h':=by (repeat (first|exact Up.here|assumption|apply Up.there))) (hc:v.cells=ys:=by rfl) (hn:ys.length=m:=by rfl) (hl:off+m≤l.length:=by rfl) (h1:Ones h ys:=by (repeat (first|exact Ones.nil|refine Ones.cons rfl ?_|refine Ones.own (by (fail_if_success (apply memG));repeat (first|exact List.Mem.head _|assumption|refine List.Mem.tail _ ?_)) ?_))):Step P ⟨none,.store ty' x y,ty,pos,af,gd⟩ ⟨n,t,h⟩ K:=step_store_any hx hy hc hn hl h1 hu rfl hK
theorem S.store_elem {ty' k j e:Nat} {g:Bool} {sv:Value} {v:AV} {l ys:List AV} [hv:TVal P ty' g k] (hK:K ⟨n,t,h'⟩) (hx:evalA t x=some (.ep sv k j 0):=by rfl) (hy:evalA t y=some v:=by rfl) (hu:Up h (.own sv k l e) (.own sv k (l.set j v) e) h':=by (repeat (first|exact Up.here|assumption|apply Up.there))) (hc:v.cells=ys:=by rfl) (hn:ys.length=k:=by rfl) (h1:Ones h ys:=by (repeat (first|exact Ones.nil|refine Ones.cons rfl ?_|refine Ones.own (by (fail_if_success (apply memG));repeat (first|exact List.Mem.head _|assumption|refine List.Mem.tail _ ?_)) ?_))) (hj:j<l.length:=by (first|omega|(simp only[ints,splice,List.length_map,List.length_append,List.length_cons,List.length_nil,List.length_take,List.length_drop,List.length_set,List.length_replicate];omega))):Step P ⟨none,.store ty' x y,ty,pos,af,gd⟩ ⟨n,t,h⟩ K:=step_store_elem hx hy hc hn h1 hj hu rfl hK
theorem S.store_field {ty' k j off e:Nat} {g:Bool} {sv:Value} {v:AV} {l cs cs':List AV} [hv:TVal P ty' g 1] (hK:K ⟨n,t,h'⟩) (hx:evalA t x=some (.ep sv k j off):=by rfl) (hy:evalA t y=some v:=by rfl) (hu:Up h (.own sv k l e) (.own sv k (l.set j (.agg cs')) e) h':=by (repeat (first|exact Up.here|assumption|apply Up.there))) (hc:v.cells=[v]:=by rfl) (h1:Ones h [v]:=by (repeat (first|exact Ones.nil|refine Ones.cons rfl ?_|refine Ones.own (by (fail_if_success (apply memG));repeat (first|exact List.Mem.head _|assumption|refine List.Mem.tail _ ?_)) ?_))) (hel:l[j]?=some (.agg cs):=by (first|exact at_ints (by assumption)|exact at_intsN (by omega)|exact at_map (by assumption)|exact at_mapN (by omega)|rfl|assumption)) (hcs:cs.length=k:=by rfl) (hset:SetL cs off v cs':=by (repeat (first|exact SetL.here|apply SetL.there))):Step P ⟨none,.store ty' x y,ty,pos,af,gd⟩ ⟨n,t,h⟩ K:=step_store_field hx hy hc h1 hel hcs hset hu rfl hK
theorem S.buildSlice {bt m e k bs:Nat} {g:Bool} {ps:Array (Nat × Operand)} {xs:List Operand} {vs:List AV} [he:TElem P bt e k bs g] (hps:ps.toList=(xs.zipIdx).map fun p=>(p.2,p.1)) (hm:xs.length=m) (hx:Evals t xs vs)
  (hk:∀v∈vs,v.cells.length=k) (h1:Ones h (vs.flatMap AV.cells)) (hbig:m * k≤16777216) (hn:Nat.blt d n=true)
  (hK:∀v,K ⟨n,(d,.val v)::t,.own v k vs e::h⟩):Step P ⟨some d,.buildSlice bt m ps,ty,pos,af,gd⟩ ⟨n,t,h⟩ K:=step_buildSlice hps hm hx hk h1 hbig hn hK
theorem S.build1 {bt e k bs:Nat} {g:Bool} {v0:AV} [he:TElem P bt e k bs g] (hK:∀v,K ⟨n,(d,.val v)::t,.own v k [v0] e::h⟩) (hx:evalA t x=some v0:=by rfl) (hk:v0.cells.length=k:=by rfl) (h1:Ones h v0.cells:=by (repeat (first|exact Ones.nil|refine Ones.cons rfl ?_|refine Ones.own (by (fail_if_success (apply memG));repeat (first|exact List.Mem.head _|assumption|refine List.Mem.tail _ ?_)) ?_))) (hbig:k≤16777216:=by omega) (hn:Nat.blt d n=true:=by rfl):Step P ⟨some d,.buildSlice bt 1 #[(0,x)],ty,pos,af,gd⟩ ⟨n,t,h⟩ K:=
 step_buildSlice (xs:=[x]) (vs:=[v0]) rfl rfl (.cons hx .nil) (by simpa using hk) (by simpa using h1) (by simpa using hbig) hn hK
theorem S.build2 {bt e k bs:Nat} {g:Bool} {v0 v1:AV} [he:TElem P bt e k bs g] (hK:∀v,K ⟨n,(d,.val v)::t,.own v k [v0,v1] e::h⟩) (hx:evalA t x=some v0:=by rfl) (hy:evalA t y=some v1:=by rfl) (hk:v0.cells.length=k:=by rfl) (hk':v1.cells.length=k:=by rfl) (h1:Ones h (v0.cells++v1.cells):=by (repeat (first|exact Ones.nil|refine Ones.cons rfl ?_|refine Ones.own (by (fail_if_success (apply memG));repeat (first|exact List.Mem.head _|assumption|refine List.Mem.tail _ ?_)) ?_))) (hbig:k≤1000000:=by omega) (hn:Nat.blt d n=true:=by rfl):Step P ⟨some d,.buildSlice bt 2 #[(0,x),(1,y)],ty,pos,af,gd⟩ ⟨n,t,h⟩ K:=
 step_buildSlice (xs:=[x,y]) (vs:=[v0,v1]) rfl rfl (.cons hx (.cons hy .nil)) (by simp[hk,hk']) (by simpa using h1) (by omega) hn hK
theorem S.build0 {bt e k bs:Nat} {g:Bool} [he:TElem P bt e k bs g] (hK:∀v,K ⟨n,(d,.val v)::t,.own v k [] e::h⟩) (hn:Nat.blt d n=true:=by rfl):Step P ⟨some d,.buildSlice bt 0 #[],ty,pos,af,gd⟩ ⟨n,t,h⟩ K:=
 step_buildSlice (xs:=[]) (vs:=[]) rfl rfl .nil (by simp) .nil (by simp) hn hK
theorem S.make {bt e k bs m c:Nat} {g:Bool} {kl kc:IntKind} {i1 i2:Int} {z:AV} [he:TElem P bt e k bs g] [hz:TZel P e z] (hK:∀v,K ⟨n,(d,.val v)::t,.own v k (List.replicate m z) e::h⟩) (hx:evalA t x=some (.val (.int kl i1)):=by rfl) (hy:evalA t y=some (.val (.int kc i2)):=by rfl) (hm:i1=(m:Int):=by (first|exact rfl|exact (Int.toNat_of_nonneg (by omega)).symm)) (hc:i2=(c:Int):=by (first|exact rfl|exact (Int.toNat_of_nonneg (by omega)).symm)) (hnc:m≤c:=by (first|omega|(simp only[ints,splice,List.length_map,List.length_append,List.length_cons,List.length_nil,List.length_take,List.length_drop,List.length_set,List.length_replicate];omega))) (ho:z.cells.all AV.one=true:=by rfl) (hb:bs * c≤281474976710656:=by (first|omega|(simp only[ints,splice,List.length_map,List.length_append,List.length_cons,List.length_nil,List.length_take,List.length_drop,List.length_set,List.length_replicate];omega))) (hb1:c≤9223372036854775807:=by (first|omega|(simp only[ints,splice,List.length_map,List.length_append,List.length_cons,List.length_nil,List.length_take,List.length_drop,List.length_set,List.length_replicate];omega))) (hn:Nat.blt d n=true:=by rfl) :
  Step P ⟨some d,.makeSlice bt x y,ty,pos,af,gd⟩ ⟨n,t,h⟩ K:=step_make hx hy hm hc hnc ho hb hb1 hn hK
theorem S.append {xt e k bs:Nat} {g:Bool} {v:Value} {l xs:List AV} {sv:AV} [he:TElem P xt e k bs g] {f:OE→Heap} (hK:∀v',K ⟨n,(d,.val v')::t,f (.own v' k (l++xs) e)⟩) (hx:evalA t x=some (.val v):=by rfl) (ho:Pl h (.own v k l e) f:=by (repeat (first|exact Pl.here|assumption|apply Pl.there))) (hy:evalA t y=some sv:=by rfl) (hs:SrcA h k sv xs:=by (first|exact SrcA.ro _|exact SrcA.own (by (fail_if_success (apply memG));repeat (first|exact List.Mem.head _|assumption|refine List.Mem.tail _ ?_))|exact SrcA.vw (by (fail_if_success (apply memG));repeat (first|exact List.Mem.head _|assumption|refine List.Mem.tail _ ?_)) (by first|omega|(simp only[ints,splice,List.length_map,List.length_append,List.length_cons,List.length_nil,List.length_take,List.length_drop,List.length_set,List.length_replicate];omega))|exact SrcA.emp|exact SrcA.nil|exact SrcA.all (by assumption))) (hb:(l.length+xs.length) * bs≤140737488355328:=by (first|omega|(simp only[ints,splice,List.length_map,List.length_append,List.length_cons,List.length_nil,List.length_take,List.length_drop,List.length_set,List.length_replicate];omega))) (hb1:l.length+xs.length≤9223372036854775807:=by (first|omega|(simp only[ints,splice,List.length_map,List.length_append,List.length_cons,List.length_nil,List.length_take,List.length_drop,List.length_set,List.length_replicate];omega))) (hn:Nat.blt d n=true:=by rfl) :
  Step P ⟨some d,.call { callee:=.builtin .append,args:=#[x,y],argTypes:=#[xt,xt] },ty,pos,af,gd⟩ ⟨n,t,h⟩ K:=step_append hx ho.mem hy hs hb hb1 hn (fun v'=>⟨_,ho.up _,hK v'⟩)
theorem S.append1 {xt e k bs:Nat} {g:Bool} {v w:Value} {l xs:List AV} {h1:Heap} [he:TElem P xt e k bs g] {f:OE→Heap} (hK:∀v',K ⟨n,(d,.val v')::t,f (.own v' k (l++xs) e)⟩) (hx:evalA t x=some (.val v):=by rfl) (hy:evalA t y=some (.val w):=by rfl) (hw:Tk h (.own w k xs e) h1:=by (repeat (first|exact Tk.here|apply Tk.there))) (ho:Pl h1 (.own v k l e) f:=by (repeat (first|exact Pl.here|assumption|apply Pl.there))) (hb:(l.length+xs.length) * bs≤140737488355328:=by (first|omega|(simp only[ints,splice,List.length_map,List.length_append,List.length_cons,List.length_nil,List.length_take,List.length_drop,List.length_set,List.length_replicate];omega))) (hb1:l.length+xs.length≤9223372036854775807:=by (first|omega|(simp only[ints,splice,List.length_map,List.length_append,List.length_cons,List.length_nil,List.length_take,List.length_drop,List.length_set,List.length_replicate];omega))) (hn:Nat.blt d n=true:=by rfl) :
  Step P ⟨some d,.call { callee:=.builtin .append,args:=#[x,y],argTypes:=#[xt,xt] },ty,pos,af,gd⟩ ⟨n,t,h⟩ K:=by
 intro m0 w0 a w0' hs Q
 have hs2:Sim m0 w0 ⟨n,t,.own w k xs e::h1⟩ a w0':=hs.le ⟨rfl,.refl,.cons hw (.refl _)⟩
 refine Oper.wp_mono ?_ (step_append (d:=some d) (s:=⟨n,t,.own w k xs e::h1⟩) (K:=fun s'=>∃w',s'=⟨n,(d,.val w')::t,.own w k xs e::f (.own w' k (l++xs) e)⟩∧K ⟨n,(d,.val w')::t,f (.own w' k (l++xs) e)⟩) hx (List.mem_cons_of_mem _ ho.mem) hy (.own (List.mem_cons_self ..)) hb hb1 hn (fun v'=>?_) m0 w0 a w0' hs2 Q)
 ·rintro a' w' ⟨s',⟨w1,rfl,hk⟩,hs'⟩
  exact⟨_,hk,hs'.le ⟨rfl,.refl,.skip (.refl _)⟩⟩
 ·exact⟨_,.there (ho.up _),v',rfl,hK v'⟩
theorem S.append_nil {xt e k bs:Nat} {g:Bool} {xs:List AV} {sv:AV} [he:TElem P xt e k bs g] (hK:∀v',K ⟨n,(d,.val v')::t,.own v' k xs e::h⟩) (hx:evalA t x=some (.val (.slice none 0 0)):=by rfl) (hy:evalA t y=some sv:=by rfl) (hs:SrcA h k sv xs:=by (first|exact SrcA.ro _|exact SrcA.own (by (fail_if_success (apply memG));repeat (first|exact List.Mem.head _|assumption|refine List.Mem.tail _ ?_))|exact SrcA.vw (by (fail_if_success (apply memG));repeat (first|exact List.Mem.head _|assumption|refine List.Mem.tail _ ?_)) (by first|omega|(simp only[ints,splice,List.length_map,List.length_append,List.length_cons,List.length_nil,List.length_take,List.length_drop,List.length_set,List.length_replicate];omega))|exact SrcA.emp|exact SrcA.nil|exact SrcA.all (by assumption))) (hb:xs.length * bs≤140737488355328:=by (first|omega|(simp only[ints,splice,List.length_map,List.length_append,List.length_cons,List.length_nil,List.length_take,List.length_drop,List.length_set,List.length_replicate];omega))) (hb1:xs.length≤9223372036854775807:=by (first|omega|(simp only[ints,splice,List.length_map,List.length_append,List.length_cons,List.length_nil,List.length_take,List.length_drop,List.length_set,List.length_replicate];omega))) (hn:Nat.blt d n=true:=by rfl) :
  Step P ⟨some d,.call { callee:=.builtin .append,args:=#[x,y],argTypes:=#[xt,xt] },ty,pos,af,gd⟩ ⟨n,t,h⟩ K:=step_append_nil hx hy hs hb hb1 hn hK
theorem S.copy {xt yt e k bs lo m:Nat} {g:Bool} {v:Value} {l xs:List AV} {dv sv:AV} [he:TElem P xt e k bs g] (hK:K ⟨n,(d,.val (.int .i64 (xs.length:Int)))::t,h'⟩) (hx:evalA t x=some dv:=by rfl) (hd:dv=.vw v k lo m∨dv=.val v∧lo=0∧m=l.length:=by (first|exact .inl rfl|exact .inr ⟨rfl,rfl,rfl⟩)) (hy:evalA t y=some sv:=by rfl) (hs:SrcA h k sv xs:=by (first|exact SrcA.ro _|exact SrcA.own (by (fail_if_success (apply memG));repeat (first|exact List.Mem.head _|assumption|refine List.Mem.tail _ ?_))|exact SrcA.vw (by (fail_if_success (apply memG));repeat (first|exact List.Mem.head _|assumption|refine List.Mem.tail _ ?_)) (by first|omega|(simp only[ints,splice,List.length_map,List.length_append,List.length_cons,List.length_nil,List.length_take,List.length_drop,List.length_set,List.length_replicate];omega))|exact SrcA.emp|exact SrcA.nil|exact SrcA.all (by assumption))) (hu:Up h (.own v k l e) (.own v k (splice l lo xs) e) h':=by (repeat (first|exact Up.here|assumption|apply Up.there))) (hm:xs.length≤m:=by (first|omega|(simp only[ints,splice,List.length_map,List.length_append,List.length_cons,List.length_nil,List.length_take,List.length_drop,List.length_set,List.length_replicate];omega))) (hln:lo+m≤l.length:=by (first|omega|(simp only[ints,splice,List.length_map,List.length_append,List.length_cons,List.length_nil,List.length_take,List.length_drop,List.length_set,List.length_replicate];omega))) (hn:Nat.blt d n=true:=by rfl) :
  Step P ⟨some d,.call { callee:=.builtin .copy,args:=#[x,y],argTypes:=#[xt,yt] },ty,pos,af,gd⟩ ⟨n,t,h⟩ K:=step_copy hx hd hy hs hm hln hu hn hK
theorem S.trunc {xt e k bs hi:Nat} {g:Bool} {v:Value} {l:List AV} {x1 x2:Option Operand} [he:TElem P xt e k bs g] {f:OE→Heap} (hK:∀u,K ⟨n,(d,.val u)::t,f (.own u k (l.take hi) e)⟩) (hx:evalA t x=some (.val v):=by rfl) (ho:Pl h (.own v k l e) f:=by (repeat (first|exact Pl.here|assumption|apply Pl.there))) (h1:bndA t 0 x1 0:=by (first|exact rfl|exact⟨_,_,rfl,(by first|exact rfl|exact (Int.toNat_of_nonneg (by omega)).symm)⟩)) (h2:bndA t l.length x2 hi:=by (first|exact rfl|exact⟨_,_,rfl,(by first|exact rfl|exact (Int.toNat_of_nonneg (by omega)).symm)⟩)) (hh:hi≤l.length:=by (first|omega|(simp only[ints,splice,List.length_map,List.length_append,List.length_cons,List.length_nil,List.length_take,List.length_drop,List.length_set,List.length_replicate];omega))) (hn:Nat.blt d n=true:=by rfl):Step P ⟨some d,.slice xt x x1 x2 none,ty,pos,af,gd⟩ ⟨n,t,h⟩ K:=step_trunc hx ho.mem h1 h2 hh hn (fun u=>⟨_,ho.up _,hK u⟩)
theorem S.call {f:Nat} {args:Array Operand} {ats:Array Nat} {vs:List AV} [TFun P f] (hc:ACalls P f vs h (fun r h'=>K ⟨n,(d,r)::t,h'⟩)) (hx:Evals t args.toList vs:=by (repeat (first|exact Evals.nil|(apply Evals.cons;rfl)))) (hn:Nat.blt d n=true:=by rfl) :
  Step P ⟨some d,.call { callee:=.value (.func f),args:=args,argTypes:=ats },ty,pos,af,gd⟩ ⟨n,t,h⟩ K:=step_call hx hn hc
/-! ### Code -/
variable {Q:Exit→St→Prop} {s:St}
theorem W.rs {id:Nat} {c:Code} (k:RL ro P ops ops.toList s (fun s'=>W ro P c Q s')):W ro P (.seq (.region id ops false) c) Q s:=W.seq (W.region k)
theorem W.assoc {a b c:Code} (k:W ro P a (Then (W ro P b (Then (W ro P c Q) Q)) (Then (W ro P c Q) Q)) s):W ro P (.seq (.seq a b) c) Q s:=W.seq (W.seq k)
theorem thn {K:St→Prop} (k:K s):Then K Q .normal s:=k
theorem thx {K:St→Prop} {i:Nat} (k:Q (.exit i) s):Then K Q (.exit i) s:=k
theorem thr {K:St→Prop} (k:Q .ret s):Then K Q .ret s:=k
theorem inh {i:Nat} (k:Q .normal s):InBlock i Q (.exit i) s:=by simp only[InBlock,if_true];exact k
theorem inm {i j:Nat} (hne:Nat.beq i j=false) (k:Q (.exit i) s):InBlock j Q (.exit i) s:=by
 have:¬ i=j:=fun e=>by subst e;simp at hne
 simp only[InBlock,if_neg this];exact k
theorem inn {i:Nat} (k:Q .normal s):InBlock i Q .normal s:=k
theorem inr {i:Nat} (k:Q .ret s):InBlock i Q .ret s:=k
theorem W.cd {c:Operand} {x y:Code} {p:Prop} {dp:Decidable p} (hc:evalA s.t c=some (.val (.bool (@decide p dp)))) (h1:p→W ro P x Q s) (h2:¬ p→W ro P y Q s):W ro P (.cond c x y) Q s:=
 W.cond hc (fun h=>h1 (by simpa using h)) (fun h=>h2 (by simpa using h))
theorem W.ct {c:Operand} {x y:Code} (hc:evalA s.t c=some (.val (.bool true))) (h1:W ro P x Q s):W ro P (.cond c x y) Q s:=W.cond hc (fun _=>h1) (fun h=>by cases h)
theorem W.cf {c:Operand} {x y:Code} (hc:evalA s.t c=some (.val (.bool false))) (h1:W ro P y Q s):W ro P (.cond c x y) Q s:=W.cond hc (fun h=>by cases h) (fun _=>h1)
end
theorem ints_append (k:IntKind) (xs ys:List Int):ints k (xs++ys)=ints k xs++ints k ys:=by simp[ints]
theorem fin_r {P:Program} {rs:List ResultVar} {Q:AV→Heap→Prop} {s:St} {vs:List AV} {h':Heap} (q:Q (tupA vs) h') (h1:ResA P s rs vs:=by (repeat (first|exact ResA.nil|(apply ResA.tmp;rfl)|(apply ResA.cell inferInstance;rfl;exact (by (fail_if_success (apply memG));repeat (first|exact List.Mem.head _|assumption|refine List.Mem.tail _ ?_));rfl)))) (h2:LeH s.h h':=by (repeat (first|exact LeH.refl _|exact LeH.nil _|refine LeH.cons (by (fail_if_success (apply tkG));(repeat (first|exact Tk.here|apply Tk.there));first|done|fail) ?_|refine LeH.boxw (by (fail_if_success (apply tkG));(repeat (first|exact Tk.here|apply Tk.there));first|done|fail) (by (repeat (first|exact Wk.refl _|exact Wk.nilr _|exact Wk.nilm|apply Wk.aggc|apply Wk.tupc|exact Wk.aggn|exact Wk.tupn));first|done|fail) ?_|refine LeH.skip ?_))):Fini P rs Q .ret s:=⟨vs,h',h1,h2,q⟩
theorem fin_n {P:Program} {rs:List ResultVar} {Q:AV→Heap→Prop} {s:St} {vs:List AV} {h':Heap} (q:Q (tupA vs) h') (h1:ResA P s rs vs:=by (repeat (first|exact ResA.nil|(apply ResA.tmp;rfl)|(apply ResA.cell inferInstance;rfl;exact (by (fail_if_success (apply memG));repeat (first|exact List.Mem.head _|assumption|refine List.Mem.tail _ ?_));rfl)))) (h2:LeH s.h h':=by (repeat (first|exact LeH.refl _|exact LeH.nil _|refine LeH.cons (by (fail_if_success (apply tkG));(repeat (first|exact Tk.here|apply Tk.there));first|done|fail) ?_|refine LeH.boxw (by (fail_if_success (apply tkG));(repeat (first|exact Tk.here|apply Tk.there));first|done|fail) (by (repeat (first|exact Wk.refl _|exact Wk.nilr _|exact Wk.nilm|apply Wk.aggc|apply Wk.tupc|exact Wk.aggn|exact Wk.tupn));first|done|fail) ?_|refine LeH.skip ?_))):Fini P rs Q .normal s:=⟨vs,h',h1,h2,q⟩
end Go.VM
namespace Go.VM
open Go
set_option linter.unusedVariables false
set_option linter.unusedSimpArgs false
/-! ### Regions that draw their order, by hand -/
def quietOp:Op→Bool
 | .move _|.assign _|.pick _ _ _|.build _ _|.load _ _|.binOp _ _ _ _ _|.unOp _ _ _|.convert _ _ _|.makeFunc _ _ _|.slice _ _ _ _ _|.fieldAddr _ _ _|.field _ _ _|.indexAddr _ _ _|.index _ _ _|.extract _ _|.nilCheck _|.makeInterface _ _=>true
 | .call ⟨.builtin .len,_,_⟩|.call ⟨.builtin .min,_,_⟩|.call ⟨.builtin .max,_,_⟩|.call ⟨.builtin .cap,_,_⟩=>true
 | _=>false
theorem tk_mid {a b:Heap} {x:OE}:Tk (a++x::b) x (a++b):=by
 induction a with
 | nil=>exact .here
 | cons y a ih=>exact .there ih
theorem LeH.of_perm:∀{h' h:Heap},h'.Perm h→LeH h h'
 | [],h,_=>.nil h
 | x::r,h,p=>by
  have hm:x∈h:=p.subset (List.mem_cons_self ..)
  obtain⟨a,b,rfl⟩:=List.append_of_mem hm
  exact .cons tk_mid (LeH.of_perm ((List.perm_cons x).1 (p.trans List.perm_middle)) )
section
variable {ro:Option Nat} {P:Program} {ops:Array Oper} {n:Nat} {t:List (Nat × AV)} {h:Heap} {K:St→Prop} {hro:Heap} {t1:List (Nat × AV)} {listed:Array Bool} {fuel:Nat} {oi:Oper} {Q:Exit→St→Prop} {s:St}
inductive Sel:Heap→Heap→Heap→Prop
 | done (h:Heap):Sel h [] h
 | ro {x:OE} {h a b:Heap} (k:Sel h a b):Sel (x::h) (x::a) b
 | rw {x:OE} {h a b:Heap} (k:Sel h a b):Sel (x::h) a (x::b)
theorem Sel.perm {h a b:Heap} (k:Sel h a b):(a++b).Perm h:=by
 induction k with
 | done h=>exact .refl _
 | ro _ ih=>exact ih.cons _
 | rw _ ih=>exact List.perm_middle.trans (ih.cons _)
inductive App:Heap→Heap→Heap→Prop
 | nil (h:Heap):App [] h h
 | cons {x:OE} {a h b:Heap} (k:App a h b):App (x::a) h (x::b)
theorem App.eq {a h b:Heap} (k:App a h b):a++h=b:=by
 induction k with
 | nil=>rfl
 | cons _ ih=>rw[List.cons_append,ih]
theorem wanted_n {t:List (Nat × AV)} {o:Oper} (h:o.guard=none):Wanted ops t o true:=by unfold Wanted;rw[h]
theorem wanted_p {t:List (Nat × AV)} {o:Oper} {j d:Nat} {want b:Bool} (h:o.guard=some (j,want)) (h1:(ops[j]?).bind (·.dst)=some d) (h2:get t d=some (.val (.bool b))) (h3:b=want):Wanted ops t o true:=by
 unfold Wanted;rw[h]
 exact⟨d,h1,.inl ⟨b,h2,by simp[h3]⟩⟩
theorem wanted_m {t:List (Nat × AV)} {o:Oper} {j d:Nat} {want b:Bool} (h:o.guard=some (j,want)) (h1:(ops[j]?).bind (·.dst)=some d) (h2:get t d=some (.val (.bool b))) (h3:b=!want):Wanted ops t o false:=by
 unfold Wanted;rw[h]
 exact⟨d,h1,.inl ⟨b,h2,by subst h3;cases want<;>rfl⟩⟩
theorem D.V (i:Nat) {d:Nat} {v:AV} (k:D P ops K hro t1 (listed.setIfInBounds i true) fuel ⟨n,(d,v)::t,h⟩) (hi:ops[i]?=some oi:=by rfl) (hk:quietOp oi.op=true:=by rfl) (hr:(Region.ready .any ops listed).contains i=true:=by decide +kernel) (hfr:Region.free .any ops listed i=true:=by decide +kernel)
  (hsel:Region.noSelect ops=true:=by decide +kernel) (hw:Wanted ops t oi true:=by first|exact wanted_n rfl|exact wanted_p rfl rfl rfl (by first|rfl|(simp;done)|(simp;omega)|(simp[*];done)|fail)|fail)
  (hp:PurV P oi t (hro++h) v:=by first|exact vV|fail) (hd:oi.dst=some d:=by rfl) (hn:Nat.blt d n=true:=by rfl) (ht:get t1 d=none:=by rfl):D P ops K hro t1 listed (fuel+1) ⟨n,t,h⟩:=by
 refine D.takeV i hi hsel hfr hr hw hp (by rw[hd];exact hn) (fun d' hd'=>by rw[hd] at hd';injection hd' with hd';subst hd';exact ht) ?_
 rw[hd];exact k
end
end Go.VM
namespace Go.VM
open Go
set_option linter.unusedVariables false
set_option linter.unusedSimpArgs false
/-! ### An owned slice becomes immutable -/
inductive Frz (v:Value) (k:Nat) (l:List AV):AV→AV→Prop
 | keep (x:AV):Frz v k l x x
 | hit:Frz v k l (.val v) (.ro k l)
 | aggn:Frz v k l (.agg []) (.agg [])
 | aggc {x y:AV} {r q:List AV} (h:Frz v k l x y) (hr:Frz v k l (.agg r) (.agg q)):Frz v k l (.agg (x::r)) (.agg (y::q))
 | tupn:Frz v k l (.tup []) (.tup [])
 | tupc {x y:AV} {r q:List AV} (h:Frz v k l x y) (hr:Frz v k l (.tup r) (.tup q)):Frz v k l (.tup (x::r)) (.tup (y::q))
theorem Frz.rel {v:Value} {k:Nat} {l:List AV} {x y:AV} (h:Frz v k l x y) {m m':Ghost} (hm:Gle m m') (hv:Rel m' (.ro k l) v):∀u,Rel m x u→Rel m' y u:=by
 induction h with
 | keep x=>exact fun u h=>h.mono hm
 | hit=>intro u h;simp only[Rel] at h;obtain⟨rfl,_⟩:=h;exact hv
 | aggn=>exact fun u h=>h.mono hm
 | aggc _ _ ih1 ih2=>
  intro u h
  simp only[Rel,RelL] at h ⊢
  obtain⟨cs,rfl,c,r,e,h1,h2⟩:=h
  refine⟨cs,rfl,c,r,e,ih1 c h1,?_⟩
  have:=ih2 (.agg r.toArray) (by simp only[Rel];exact⟨_,rfl,by simpa using h2⟩)
  simp only[Rel] at this
  obtain⟨cs',e',h3⟩:=this
  injection e' with e'
  subst e'
  simpa using h3
 | tupn=>exact fun u h=>h.mono hm
 | tupc _ _ ih1 ih2=>
  intro u h
  simp only[Rel,RelL] at h ⊢
  obtain⟨cs,rfl,c,r,e,h1,h2⟩:=h
  refine⟨cs,rfl,c,r,e,ih1 c h1,?_⟩
  have:=ih2 (.tuple r.toArray) (by simp only[Rel];exact⟨_,rfl,by simpa using h2⟩)
  simp only[Rel] at this
  obtain⟨cs',e',h3⟩:=this
  injection e' with e'
  subst e'
  simpa using h3
theorem own_ro {m m':Ghost} {w:World} {v:Value} {k e:Nat} {l:List AV} (h:OERel m w (.own v k l e)) (hm:Gle m m') (hb:∀b,ownBlk v=some b→m' b=w.heap[b]?):Rel m' (.ro k l) v:=by
 simp only[Rel]
 rcases h.own_cases with ⟨A,rfl,rfl⟩|⟨g,cap,cur,xs,rfl,hc,q7,q8,q9,q10,q11,q12,q4,q5,q6,_⟩
 ·exact⟨A,0,rfl,Nat.le_refl _,Nat.zero_le _,fun _=>rfl,fun h=>absurd rfl h⟩
 ·refine⟨_,cap,rfl,q8,q9,fun h=>(by cases h),fun _=>⟨g,0,cur,e,(0,0),rfl,(hb g q6).trans q7,?_,?_,?_⟩⟩
  ·rw[q10,Nat.zero_add];exact Nat.mul_le_mul_right _ q8
  ·rw[List.drop_zero,q11];exact q4.mono hm
  ·rw[List.drop_zero,q11];exact q5
theorem Tk.nodup {h r:Heap} {x:OE} (t:Tk h x r) (nd:(h.filterMap OE.blk).Nodup):∀b,x.blk=some b→∀y∈r,y.blk≠some b:=by
 intro b hb y hy hyb
 have p:=(t.perm.filterMap OE.blk).nodup_iff.2 nd
 rw[List.filterMap_cons_some hb] at p
 exact (List.nodup_cons.1 p).1 (mem_blks.2 ⟨y,hy,hyb⟩)
theorem ACalls.frz {P:Program} {f:Nat} {args:List AV} {h:Heap} {Q Q':AV→Heap→Prop} (hc:ACalls P f args h Q)
  (hq:∀r h',Q r h'→∃v k l e r' h1,Tk h' (.own v k l e) h1∧Frz v k l r r'∧Q' r' h1):ACalls P f args h Q':=by
 intro m w vs h1 h2 h3
 refine (hc m w vs h1 h2 h3).mono ?_
 rintro en w' ⟨m',u,r,h',rfl,g1,g2,g3,g4,g5,g6,g7⟩
 obtain⟨v,k,l,e,r',hh,t1,t2,t3⟩:=hq r h' g7
 have hown:=g5.2 _ t1.old
 let m'':Ghost:=fun b=>if ownBlk v=some b then w'.heap[b]? else m' b
 have hle:Gle m' m'':=fun b o hb=>by
  show (if ownBlk v=some b then w'.heap[b]? else m' b)=some o
  rw[if_neg (fun hv=>by rw[hown.1 b hv] at hb;cases hb)];exact hb
 have hat:∀b,ownBlk v=some b→m'' b=w'.heap[b]?:=fun b hb=>if_pos hb
 refine⟨m'',u,r',hh,rfl,g1.trans hle,fun b o hb=>?_,g3,t2.rel hle (own_ro hown.2 hle hat) u g4,?_,⟨fun b o hb=>?_,g6.frame,fun x hx b hb=>g6.own x (t1.sub.subset hx) b hb⟩,t3⟩
 ·have hb:(if ownBlk v=some b then w'.heap[b]? else m' b)=some o:=hb
  split at hb
  ·exact hb
  ·exact g2 b o hb
 ·refine HRel.mono hle (g5.sub t1.sub) fun x hx b hb=>?_
  show (if ownBlk v=some b then w'.heap[b]? else m' b)=none
  rw[if_neg (show ¬ ownBlk v=some b from fun hv=>t1.nodup g5.1 b hv x hx hb)]
  exact (g5.2 x (t1.sub.subset hx)).1 b hb
 ·have hb:(if ownBlk v=some b then w'.heap[b]? else m' b)=some o:=hb
  split at hb
  ·rename_i hv
   right
   exact g6.own _ t1.old b hv
  ·exact g6.grow b o hb
theorem ACalls.frzo {P:Program} {f:Nat} {args:List AV} {h:Heap} {Q Q':AV→Heap→Prop} (hc:ACalls P f args h Q)
  (hq:∀r h',Q r h'→Q' r h'∨∃v k l e r' h1,Tk h' (.own v k l e) h1∧Frz v k l r r'∧Q' r' h1):ACalls P f args h Q':=by
 intro m w vs h1 h2 h3
 refine (hc m w vs h1 h2 h3).mono ?_
 rintro en w' ⟨m',u,r,h',rfl,g1,g2,g3,g4,g5,g6,g7⟩
 rcases hq r h' g7 with q|⟨v,k,l,e,r',hh,t1,t2,t3⟩
 ·exact⟨m',u,r,h',rfl,g1,g2,g3,g4,g5,g6,q⟩
 have hown:=g5.2 _ t1.old
 let m'':Ghost:=fun b=>if ownBlk v=some b then w'.heap[b]? else m' b
 have hle:Gle m' m'':=fun b o hb=>by
  show (if ownBlk v=some b then w'.heap[b]? else m' b)=some o
  rw[if_neg (fun hv=>by rw[hown.1 b hv] at hb;cases hb)];exact hb
 have hat:∀b,ownBlk v=some b→m'' b=w'.heap[b]?:=fun b hb=>if_pos hb
 refine⟨m'',u,r',hh,rfl,g1.trans hle,fun b o hb=>?_,g3,t2.rel hle (own_ro hown.2 hle hat) u g4,?_,⟨fun b o hb=>?_,g6.frame,fun x hx b hb=>g6.own x (t1.sub.subset hx) b hb⟩,t3⟩
 ·have hb:(if ownBlk v=some b then w'.heap[b]? else m' b)=some o:=hb
  split at hb
  ·exact hb
  ·exact g2 b o hb
 ·refine HRel.mono hle (g5.sub t1.sub) fun x hx b hb=>?_
  show (if ownBlk v=some b then w'.heap[b]? else m' b)=none
  rw[if_neg (show ¬ ownBlk v=some b from fun hv=>t1.nodup g5.1 b hv x hx hb)]
  exact (g5.2 x (t1.sub.subset hx)).1 b hb
 ·have hb:(if ownBlk v=some b then w'.heap[b]? else m' b)=some o:=hb
  split at hb
  ·rename_i hv
   right
   exact g6.own _ t1.old b hv
  ·exact g6.grow b o hb
/-! ### Calls that look alone at what is owned -/
def Sc (x:AV):Prop:=∀m m' u,Rel m x u→Rel m' x u
theorem sc_val (v:Value):Sc (.val v):=fun m m' u h=>by simpa only[Rel] using h
theorem sc_relE {m m':Ghost} {k:Nat}:∀{l:List AV} {cs:List Value},(∀x∈l,Sc x)→RelE m k l cs→RelE m' k l cs
 | [],cs,_,h=>by simpa only[RelE] using h
 | x::l,cs,hs,h=>by
  simp only[RelE] at h ⊢
  obtain⟨v,r,e,h1,h2,h3⟩:=h
  exact⟨v,r,e,h1,hs x (by simp) _ _ _ h2,sc_relE (fun y hy=>hs y (by simp[hy])) h3⟩
def ScE (x:OE):Prop:=∀m m' w,OERel m w x→OERel m' w x
theorem sc_own {v:Value} {k e:Nat} {l:List AV} (h:∀x∈l,Sc x):ScE (.own v k l e):=fun m m' w q=>by
 simp only[OERel] at q ⊢
 rcases q with q|⟨b,kb,xs,k1,k2,k3⟩
 ·exact .inl q
 ·exact .inr ⟨b,kb,xs,k1,sc_relE h k2,k3⟩
theorem sc_ints (k:IntKind) (xs:List Int):∀x∈ints k xs,Sc x:=by
 intro x hx
 obtain⟨n,_,rfl⟩:=List.mem_map.1 hx
 exact sc_val _
inductive Bor (h:Heap):List AV→List AV→Prop
 | nil:Bor h [] []
 | own {v:Value} {k e:Nat} {l:List AV} {r r':List AV} (hb:OE.own v k l e∈h) (hr:Bor h r r'):Bor h (.val v::r) (.ro k l::r')
 | vw {v:Value} {k e lo n:Nat} {l:List AV} {r r':List AV} (hb:OE.own v k l e∈h) (hn:lo+n≤l.length) (hr:Bor h r r'):Bor h (.vw v k lo n::r) (.ro k ((l.drop lo).take n)::r')
 | same {x:AV} {r r':List AV} (hr:Bor h r r'):Bor h (x::r) (x::r')
theorem Bor.rel {h:Heap} {vs vs':List AV} (b:Bor h vs vs') {m m':Ghost} {w:World} (hh:HRel m h w) (hm:Gle m m') (hb:∀x∈h,∀b,x.blk=some b→m' b=w.heap[b]?):∀us,RelL m vs us→RelL m' vs' us:=by
 induction b with
 | nil=>intro us h;simpa only[RelL] using h
 | @own v k e l r r' hb' _ ih=>
  intro us q
  simp only[RelL] at q ⊢
  obtain⟨c,q',rfl,q1,q2⟩:=q
  simp only[Rel] at q1
  obtain⟨rfl,_⟩:=q1
  exact⟨_,_,rfl,own_ro (hh.2 _ hb').2 hm (hb _ hb'),ih _ q2⟩
 | @vw v k e lo n l r r' hb' hn _ ih=>
  intro us q
  simp only[RelL] at q ⊢
  obtain⟨c,q',rfl,q1,q2⟩:=q
  refine⟨_,_,rfl,?_,ih _ q2⟩
  have hlen:((l.drop lo).take n).length=n:=by rw[List.length_take,List.length_drop];omega
  simp only[Rel] at q1 ⊢
  obtain⟨A,c,rfl,h1,h2,h3,h4⟩:=q1
  rw[hlen]
  refine⟨A,c,rfl,h1,h2,h3,fun hne=>?_⟩
  have hpos:0<n:=by rw[←hlen];exact List.length_pos_iff.2 hne
  obtain⟨g,N,cap,rfl,rfl,h5⟩:=h4 hpos
  rcases (hh.2 _ hb').2.own_cases with ⟨A,_,rfl⟩|⟨b',cap',cur,xs,q6,_,q7,q8,q9,q10,q11,q12,q4,q5,q13,_⟩
  ·simp at hn;omega
  injection q6 with q6 qN qc
  injection q6 with q6
  injection q6 with q6
  subst q6;subst qN;subst qc
  have hk1:lo * k+n * k≤l.length * k:=by rw[←Nat.add_mul];exact Nat.mul_le_mul_right _ hn
  have hk2:l.length * k≤cap * k:=Nat.mul_le_mul_right _ q8
  have e1:(cur.toList.drop (lo * k)).take (n * k)=(xs.drop (lo * k)).take (n * k):=by
   rw[←q11,List.drop_take,List.take_take,Nat.min_eq_left (by omega)]
  refine⟨g,lo * k,cur,_,_,rfl,(hb _ hb' g q13).trans q7,by omega,?_,?_⟩
  ·rw[e1];exact ((q4.mono hm).drop lo).take n
  ·rw[e1];exact fun y hy=>q5 y (List.mem_of_mem_drop (List.mem_of_mem_take hy))
 | same _ ih=>
  intro us q
  simp only[RelL] at q ⊢
  obtain⟨c,q',rfl,q1,q2⟩:=q
  exact⟨_,_,rfl,q1.mono hm,ih _ q2⟩
section
variable {ro:Option Nat} {P:Program} {n:Nat} {t:List (Nat × AV)} {h:Heap} {K:St→Prop} {d:Nat} {ty:Nat} {pos:String} {af:Array Edge} {gd:Option (Nat × Bool)} {x y:Operand}
theorem acalls_b {f:Nat} {vs vs':List AV} {Q:AV→Heap→Prop} (hb:Bor h vs vs') (hc:ACalls P f vs' [] Q) (hQ:∀r hr,Q r hr→Sc r∧∀x∈hr,ScE x):ACalls P f vs h (fun r h'=>∃hr,h'=hr++h∧Q r hr):=by
 intro m w us h1 h2 h3
 let m1:Ghost:=fun b=>if b∈h.filterMap OE.blk then w.heap[b]? else m b
 have hle:Gle m m1:=fun b o hb=>by
  show (if b∈h.filterMap OE.blk then w.heap[b]? else m b)=some o
  split
  ·exact h1 b o hb
  ·exact hb
 have hat:∀x∈h,∀b,x.blk=some b→m1 b=w.heap[b]?:=fun x hx b hb=>if_pos (mem_blks.2 ⟨x,hx,hb⟩)
 have hold:Holds m1 w:=fun b o hb=>by
  have hb:(if b∈h.filterMap OE.blk then w.heap[b]? else m b)=some o:=hb
  split at hb
  ·exact hb
  ·exact h1 b o hb
 refine (hc m1 w us hold (hb.rel h3 hle hat us h2) ⟨by simp,fun x hx=>by simp at hx⟩).mono ?_
 rintro en w' ⟨m',u,r,hr,rfl,g1,g2,g3,g4,g5,g6,g7⟩
 obtain⟨s1,s2⟩:=hQ r hr g7
 have hfr:∀b,b<w.heap.size→w'.heap[b]?=w.heap[b]?:=fun b hb=>g6.frame b hb (by simp)
 have hnew:∀x∈hr,∀b,x.blk=some b→w.heap.size≤b:=fun x hx b hb=>by
  rcases g6.own x hx b hb with h|h
  ·simp at h
  ·exact h
 refine⟨m,u,r,hr++h,rfl,Gle.refl m,fun b o hb=>(hfr b (h1.lt hb)).trans (h1 b o hb),g3,s1 _ _ _ g4,⟨?_,fun x hx=>?_⟩,⟨fun b o hb=>.inl hb,fun b hb _=>hfr b hb,fun x hx b hb=>?_⟩,hr,rfl,g7⟩
 ·rw[List.filterMap_append,List.nodup_append]
  refine⟨g5.1,h3.1,fun b hb c hcc e=>?_⟩
  subst e
  obtain⟨x,hx,hxb⟩:=mem_blks.1 hb
  obtain⟨y,hy,hyb⟩:=mem_blks.1 hcc
  have:=hnew x hx b hxb
  have:=(h3.2 y hy).2.lt hyb
  omega
 ·rw[List.mem_append] at hx
  rcases hx with hx|hx
  ·refine⟨fun b hb=>?_,s2 x hx _ _ _ (g5.2 x hx).2⟩
   cases hmb:m b with
   | none=>rfl
   | some o=>have:=h1.lt hmb;have:=hnew x hx b hb;omega
  ·exact⟨(h3.2 x hx).1,(h3.2 x hx).2.local fun b hb=>hfr b ((h3.2 x hx).2.lt hb)⟩
 ·rw[List.mem_append] at hx
  rcases hx with hx|hx
  ·exact .inr (hnew x hx b hb)
  ·exact .inl ⟨x,hx,hb⟩
/-! ### Branches meet again -/
theorem W.mid {ro:Option Nat} {P:Program} {X:Type} {a b:Code} {Q:Exit→St→Prop} {s:St} (J:X→St) (Φ:X→Prop) (h1:W ro P a (Then (fun s'=>∃x,Φ x∧Le s' (J x)) Q) s) (h2:∀x,Φ x→W ro P b Q (J x)):W ro P (.seq a b) Q s:=by
 refine W.seq ?_
 intro m0 w0 a' w hs
 refine wpIn_mono (h1 m0 w0 a' w hs) fun e a2 w2 ⟨s',q1,q2⟩=>⟨s',?_,q2⟩
 cases e with
 | normal=>
  obtain⟨x,hx,hle⟩:=q1
  exact W.le hle (h2 x hx)
 | _=>exact q1
/-! ### Is a slice nil? -/
theorem S.nilq {xt yt e k bs:Nat} {g:Bool} {l:List AV} {v:AV} [he:TElem P xt e k bs g] (hK:∀b:Bool,(b=true→l=[])→K ⟨n,(d,.val (.bool b))::t,h⟩) (hx:evalA t x=some v:=by rfl) (hs:SrcA h k v l:=by first|exact SrcA.ro _|exact SrcA.own (by (fail_if_success (apply memG));repeat (first|exact List.Mem.head _|assumption|refine List.Mem.tail _ ?_))|exact SrcA.vw (by (fail_if_success (apply memG));repeat (first|exact List.Mem.head _|assumption|refine List.Mem.tail _ ?_)) (by first|omega|(simp only[ints,splice,List.length_map,List.length_append,List.length_cons,List.length_nil,List.length_take,List.length_drop,List.length_set,List.length_replicate];omega))|exact SrcA.emp|exact SrcA.nil|exact SrcA.all (by assumption)) (hn:Nat.blt d n=true:=by rfl) :
  Step P ⟨some d,.binOp .eql xt x (.const (.slice none 0 0)) yt,ty,pos,af,gd⟩ ⟨n,t,h⟩ K:=by
 intro m0 w0 a w ⟨m,hsim⟩ Q
 obtain⟨A,c,ys,hu,h1,h2,_,_,h3,_⟩:=hs.spec hsim.holds hsim.heap (hsim.tmps.eval hx)
 unfold Oper.wp
 have hq:(Op.equal xt (.slice A l.length c) (.slice none 0 0)).run P w=.ok A.isNone w:=run_equal_slice_nil w xt e A l.length c (elemQ_spec he.h).1
 have hrr:(execOp a.eval ⟨some d,.binOp .eql xt x (.const (.slice none 0 0)) yt,ty,pos,af,gd⟩).run P w=.ok (.value (.bool A.isNone)) w:=by
  have hc:a.eval (.const (.slice none 0 0))=.slice none 0 0:=rfl
  simp only[execOp,hu,hc]
  simp[eqGuard,binOp,hq]
 rw[hrr]
 refine⟨_,hK A.isNone (fun hb=>?_),m,SimG.put (s:=⟨n,t,h⟩) hsim (dst:=some d) hn (rel_val rfl)⟩
 have:A=none:=by cases A<;>simp_all
 have:=h3 this
 exact List.eq_nil_of_length_eq_zero (by omega)
theorem iZ {d:Option Nat} {s:St} {xt yt:Nat} (k:Step P ⟨d,.binOp .eql xt x (.const (.slice none 0 0)) yt,ty,pos,af,gd⟩ s K):Step P ⟨d,.binOp .eql xt x (.const (.slice none 0 0)) yt,ty,pos,af,gd⟩ s K:=k
end
end Go.VM
