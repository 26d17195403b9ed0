
/- region's join, and what stands on it: Meet, Minus, Xor. No condition. -/
import Derived.Test.YtbknacpdcdkjiaaGreatW1
import Derived.Test.YtbknacpdcdkjiaaGreatC1
import Derived.Test.YtbknacpdcdkjiaaGreatC3
namespace Go.VM
open Go
theorem Sel.all:∀h:Heap,Sel h h []
 | []=>.done []
 | _::h=>.ro (Sel.all h)
theorem ACalls.nilo {P:Program} {f:FuncId} {args:List AV} {h:Heap} {Q Q':AV→Heap→Prop} (k:ACalls P f args h Q) (hq:∀r h',Q r h'→Q' r h'∨∃n e,Q' r (.own (.slice none 0 0) n [] e::h')):ACalls P f args h Q':=
 fun m w us h1 h2 h3=>(k m w us h1 h2 h3).mono fun e w' ⟨m',v,r,h',g1,g2,g3,g4,g5,g6,g7,g8⟩=>by
  rcases hq _ _ g8 with g|⟨n,e,g⟩
  ·exact⟨m',v,r,h',g1,g2,g3,g4,g5,g6,g7,g⟩
  ·refine⟨m',v,r,_,g1,g2,g3,g4,g5,hrel_nil g6,⟨g7.grow,g7.frame,fun x hx b hb=>?_⟩,g⟩
   rcases List.mem_cons.1 hx with rfl|hx
   ·simp[OE.blk,ownBlk] at hb
   ·exact g7.own x hx b hb
end Go.VM
namespace Go.Proofs.YtbknacpdcdkjiaaGreat
open Go Go.VM
attribute [local irreducible] PurV Pur Step RL W D ACalls Then InBlock Fini
set_option linter.unusedVariables false
set_option linter.unusedSimpArgs false
set_option maxHeartbeats 20000000
instance:TFun Tryz.prog 107:=⟨by kernel_rfl⟩
instance:TFun Tryz.prog 109:=⟨by kernel_rfl⟩
instance:TFun Tryz.prog 143:=⟨by kernel_rfl⟩
instance:TFun Tryz.prog 145:=⟨by kernel_rfl⟩
theorem RC.cnt.ok {r:RC} (h:r.cnt):r.ok:=by
 obtain⟨⟨a,b,c⟩,d,e,f⟩:=h
 constructor<;>(unfold I64;omega)
structure JOk (A B:List RC):Prop where
 a:Can A
 b:Can B
 la:A.length≤200000
 lb:B.length≤200000
 ys:(ysJ A B).length≤540
 xs:∀y,(xsJ A B y).length≤540
theorem Bx.jok {K:Int} {n:Nat} {A B:List RC} (ha:Bx K n A) (hb:Bx K n B) (hn:n≤100):JOk A B:=by
 have h1:=ha.len;have h2:=hb.len
 have h3:n * n≤100 * 100:=Nat.mul_le_mul hn hn
 refine⟨ha.can,hb.can,by omega,by omega,?_,fun y=>?_⟩
 ·have:=ha.ysJ hb;omega
 ·have:=ha.xsJ hb y;omega
theorem ysJ_inM {A B:List RC} (ha:Can A) (hb:Can B) {y:Int} (hy:y∈ysJ A B):-1048576≤y∧y≤1048576:=by
 obtain⟨r,hr,e⟩:=mem_ysJ.1 hy
 have hc:r.cnt:=(List.mem_append.1 hr).elim (ha.cnt r) (hb.cnt r)
 obtain⟨_,h1,h2,h3⟩:=hc
 omega
theorem xsJ_inM {A B:List RC} (ha:Can A) (hb:Can B) {x y:Int} (hx:x∈xsJ A B y):-1048576≤x∧x≤1048576:=by
 obtain⟨r,hr,_,e⟩:=mem_xsJ.1 hx
 have hc:r.cnt:=(List.mem_append.1 hr).elim (ha.cnt r) (hb.cnt r)
 obtain⟨⟨h1,h2,h3⟩,_⟩:=hc
 omega
theorem up_lt {l:List Int} (hu:Up_ l) {i j:Nat} (hij:i<j) (hj:j<l.length):l.getD i 0<l.getD j 0:=by
 rw[List.getD_eq_getElem?_getD,List.getD_eq_getElem?_getD,List.getElem?_eq_getElem hj,List.getElem?_eq_getElem (by omega)]
 exact List.pairwise_iff_getElem.1 hu i j (by omega) hj hij
theorem getD_of {l:List Int} {i:Nat} {y:Int} (h:l[i]?=some y):l.getD i 0=y:=by rw[List.getD_eq_getElem?_getD,h];rfl
set_option maxRecDepth 100000 in
theorem join_c (k:Bool→Bool→Bool) (f:Nat) [TFun Tryz.prog f] (hk:∀p q h,ACalls Tryz.prog f [.val (.bool p),.val (.bool q)] h (fun r h'=>r=.val (.bool (k p q))∧h'=h)) (A B:List RC) (h:Heap) (ok:JOk A B) :
  ACalls Tryz.prog 108 [.agg [.val (.func (.func f) #[] #[])],regE A,regE B] h (fun r h'=>r=regE (joinJ k A B)∧h'=h):=by
 obtain⟨cA,cB,lA,lB,hys,hxs⟩:=ok
 have cnA:=cA.cnt
 have cnB:=cB.cnt
 unfold regE
 refine ACalls.intro Tryz.func108 rfl Tryz.ntmps108 Tryz.results108 (Nat.le_of_ble_eq_true rfl) ?_
 (repeat' first|refine svE ⟨?_⟩|refine .b fun b=>?_|refine .u fun u=>?_|refine .d ?_ ?_|(refine .g fun hg=>?_;try exact svx)|fail)
 rename_i b3 b4 b5
 revert b;intro b6
 refine R2.C (rects_c A _ (by omega)) ?_
 (repeat' first|refine svE ⟨?_⟩|refine .b fun b=>?_|refine .u fun u=>?_|refine .d ?_ ?_|(refine .g fun hg=>?_;try exact svx)|fail)
 refine R2.C (rects_c B _ (by omega)) ?_
 (repeat' (first|(refine iS ?_;refine iN ?_;first|refine S.build1r ?_|refine S.build2r ?_|refine S.build3r ?_)|(refine iR2 ?_;refine r2b ?_;refine R2.one ?_)|(refine iS ?_;refine iMu ?_;refine S.mapU ?_)|refine svF ⟨?_⟩|refine .b fun b=>?_|refine .u fun u=>?_|refine .d ?_ ?_|(refine .g fun hg=>?_;try exact svx)|refine sva ?_|refine sv3 ?_|fail))
 refine S.call ?_
 refine (cuts_c (fun r=>(r.y,r.h)) _ 143 [] (.fn _) A B _ lA lB (fun r _ h=>tellY_c r h) (fun r hr=>by
  have hc:r.cnt:=(List.mem_append.1 hr).elim (cnA r) (cnB r)
  obtain⟨_,h1,h2,h3⟩:=hc
  dsimp only
  omega)).mono ?_
 rintro r h' ⟨wy,rfl,hh⟩;subst hh
 have hys2:ddF (srt (stE (fun r=>(r.y,r.h)) A++stE (fun r=>(r.y,r.h)) B))=ysJ A B:=rfl
 rw[hys2]
 (repeat' (first|(refine iS ?_;refine iN ?_;first|refine S.build1r ?_|refine S.build2r ?_|refine S.build3r ?_)|(refine iR2 ?_;refine r2b ?_;refine R2.one ?_)|(refine iS ?_;refine iMu ?_;refine S.mapU ?_)|refine svF ⟨?_⟩|refine .b fun b=>?_|refine .u fun u=>?_|refine .d ?_ ?_|(refine .g fun hg=>?_;try exact svx)|refine sva ?_|refine sv3 ?_|fail))
 rename_i b10
 revert b;intro b11
 refine W.nil_ 4 200 ?_
 have hup:=up_ysJ A B
 refine W.loop (J:=fun q:Nat × List RC × List RC × Value=>let i:=q.1;let vo:=q.2.2.2;⟨101,[(13,.val (.int .i64 (i:Int))),(12,.val vo),(11,.val (.pointer (some ⟨b11,0,none⟩))),(10,.val (.pointer (some ⟨b10,0,none⟩))),(9,.val wy),(6,.val (.pointer (some ⟨b6,0,none⟩))),(3,.val (.pointer (some ⟨b3,0,none⟩)))],.own vo 4 ((outJ k A B i).map RC.enc) 200::.box b10 [.ro 4 (q.2.1.map RC.enc)] 256::.box b11 [.ro 4 (q.2.2.1.map RC.enc)] 256::.own wy 1 (ints .i64 (ysJ A B)) 3::.box b3 [.val (.func (.func f) #[] #[])] 217::.box b6 [.val (.slice none 0 0)] 114::h⟩)
  (Φ:=fun q=>q.1≤(ysJ A B).length - 1∧(q.2.1.Sublist A∧∀y',(∀j,j<q.1→(ysJ A B).getD j 0≤y')→q.2.1.filter (cross y')=A.filter (cross y'))∧(q.2.2.1.Sublist B∧∀y',(∀j,j<q.1→(ysJ A B).getD j 0≤y')→q.2.2.1.filter (cross y')=B.filter (cross y')))
  (μ:=fun q=>(ysJ A B).length - q.1) (0,A,B,.slice none 0 0) lee ⟨Nat.zero_le _,⟨List.Sublist.refl _,fun _ _=>rfl⟩,List.Sublist.refl _,fun _ _=>rfl⟩ ?_
 rintro⟨i,WA,WB,vo⟩ ⟨hi,⟨sA,fA⟩,sB,fB⟩
 dsimp only at hi sA fA sB fB ⊢
 have lWA:=sA.length_le
 have lWB:=sB.length_le
 have hol:(outJ k A B i).length≤290521:=by
  have:=outJ_len (k:=k) (A:=A) (B:=B) (n:=i) (c:=539) hxs
  have:i * 539≤539 * 539:=Nat.mul_le_mul_right _ (by omega)
  omega
 rcases Nat.lt_or_ge (i+1) (ysJ A B).length with hlt|hge
 ·obtain⟨y,hy⟩:∃y,(ysJ A B)[i]?=some y:=⟨_,List.getElem?_eq_getElem (by omega)⟩
  obtain⟨z,hz⟩:∃z,(ysJ A B)[i+1]?=some z:=⟨_,List.getElem?_eq_getElem hlt⟩
  have hz':(ysJ A B)[((i:Int)+1).toNat]?=some z:=by rw[show ((i:Int)+1).toNat=i+1 by omega];exact hz
  obtain⟨yM1,yM2⟩:=ysJ_inM cA cB (List.mem_of_getElem? hy)
  obtain⟨zM1,zM2⟩:=ysJ_inM cA cB (List.mem_of_getElem? hz)
  have hyd:=getD_of hy
  have hzd:=getD_of hz
  have hbef:∀j,j<i→(ysJ A B).getD j 0≤y:=fun j hj=>by
   rw[←hyd];exact Int.le_of_lt (up_lt hup hj (by omega))
  have rA:rowW y WA=A.filter (cross y):=by rw[rowW_eq (fun r hr=>cnA r (sA.subset hr)) (cA.fol.sublist sA),fA y hbef]
  have rB:rowW y WB=B.filter (cross y):=by rw[rowW_eq (fun r hr=>cnB r (sB.subset hr)) (cB.fol.sublist sB),fB y hbef]
  have cRA:=row_c WA y b10
  have cRB:=row_c WB y b11
  rw[rA] at cRA
  rw[rB] at cRB
  have sPA:(A.filter (cross y)).Sublist A:=List.filter_sublist
  have sPB:(B.filter (cross y)).Sublist B:=List.filter_sublist
  have lPA:=sPA.length_le
  have lPB:=sPB.length_le
  have xPA:=row_x (y:=y) cnA cA.fol
  have xPB:=row_x (y:=y) cnB cB.fol
  generalize hPA:A.filter (cross y)=PA at *
  generalize hPB:B.filter (cross y)=PB at *
  have hxs2:ddF (srt (stE (fun r=>(r.x,r.w)) PA++stE (fun r=>(r.x,r.w)) PB))=xsJ A B y:=by rw[←hPA,←hPB];rfl
  (repeat' first|refine svE ⟨?_⟩|refine .b fun b=>?_|refine .u fun u=>?_|refine .d ?_ ?_|(refine .g fun hg=>?_;try exact svx)|fail)
  refine Step.le (s':=⟨101,[(55,.val (.int .i64 y)),(12,.val vo),(15,.val (.int .i64 (z - y))),(14,.val (.int .i64 y)),(13,.val (.int .i64 (i:Int))),(11,.val (.pointer (some ⟨b11,0,none⟩))),(10,.val (.pointer (some ⟨b10,0,none⟩))),(9,.val wy),(6,.val (.pointer (some ⟨b6,0,none⟩))),(3,.val (.pointer (some ⟨b3,0,none⟩)))],.box b10 [.ro 4 (WA.map RC.enc)] 256::.own vo 4 ((outJ k A B i).map RC.enc) 200::.box b11 [.ro 4 (WB.map RC.enc)] 256::.own wy 1 (ints .i64 (ysJ A B)) 3::.box b3 [.val (.func (.func f) #[] #[])] 217::.box b6 [.val (.slice none 0 0)] 114::h⟩) lee ?_
  refine S.call ?_;refine (cRA _ (by omega) (fun r hr=>cnA r (sA.subset hr))).mono ?_;rintro r h' ⟨rfl,hh⟩;subst hh
  (repeat' first|refine svE ⟨?_⟩|refine .b fun b=>?_|refine .u fun u=>?_|refine .d ?_ ?_|(refine .g fun hg=>?_;try exact svx)|fail)
  refine Step.le (s':=⟨101,[(57,.val (.int .i64 y)),(56,.ro 4 (PA.map RC.enc)),(12,.val vo),(15,.val (.int .i64 (z - y))),(14,.val (.int .i64 y)),(13,.val (.int .i64 (i:Int))),(11,.val (.pointer (some ⟨b11,0,none⟩))),(10,.val (.pointer (some ⟨b10,0,none⟩))),(9,.val wy),(6,.val (.pointer (some ⟨b6,0,none⟩))),(3,.val (.pointer (some ⟨b3,0,none⟩)))],.box b11 [.ro 4 (WB.map RC.enc)] 256::.box b10 [.ro 4 ((leftW y WA).map RC.enc)] 256::.own vo 4 ((outJ k A B i).map RC.enc) 200::.own wy 1 (ints .i64 (ysJ A B)) 3::.box b3 [.val (.func (.func f) #[] #[])] 217::.box b6 [.val (.slice none 0 0)] 114::h⟩) lee ?_
  refine S.call ?_;refine (cRB _ (by omega) (fun r hr=>cnB r (sB.subset hr))).mono ?_;rintro r h' ⟨rfl,hh⟩;subst hh
  (repeat' (first|(refine iS ?_;refine iN ?_;first|refine S.build1r ?_|refine S.build2r ?_|refine S.build3r ?_)|(refine iR2 ?_;refine r2b ?_;refine R2.one ?_)|(refine iS ?_;refine iMu ?_;refine S.mapU ?_)|refine svF ⟨?_⟩|refine .b fun b=>?_|refine .u fun u=>?_|refine .d ?_ ?_|(refine .g fun hg=>?_;try exact svx)|refine sva ?_|refine sv3 ?_|fail))
  rename_i b16
  revert b;intro b17
  refine S.call ?_
  refine (cuts_c (fun r=>(r.x,r.w)) _ 145 [] (.fn _) PA PB _ (by omega) (by omega) (fun r _ h=>tellX_c r h) (fun r hr=>by
   have hc:r.cnt:=(List.mem_append.1 hr).elim (fun h=>cnA r (sPA.subset h)) (fun h=>cnB r (sPB.subset h))
   obtain⟨⟨h1,h2,h3⟩,_⟩:=hc
   dsimp only
   omega)).mono ?_
  rintro r h' ⟨wx,rfl,hh⟩;subst hh
  rw[hxs2]
  have hupx:=up_xsJ A B y
  have hxl:=hxs y
  (repeat' first|refine svE ⟨?_⟩|refine .b fun b=>?_|refine .u fun u=>?_|refine .d ?_ ?_|(refine .g fun hg=>?_;try exact svx)|fail)
  refine W.loop (J:=fun q:Nat × List RC × List RC × Value=>let j:=q.1;let vo:=q.2.2.2;⟨101,[(19,.val (.int .i64 (j:Int))),(18,.val wx),(17,.val (.pointer (some ⟨b17,0,none⟩))),(16,.val (.pointer (some ⟨b16,0,none⟩))),(12,.val vo),(15,.val (.int .i64 (z - y))),(14,.val (.int .i64 y)),(13,.val (.int .i64 (i:Int))),(11,.val (.pointer (some ⟨b11,0,none⟩))),(10,.val (.pointer (some ⟨b10,0,none⟩))),(9,.val wy),(6,.val (.pointer (some ⟨b6,0,none⟩))),(3,.val (.pointer (some ⟨b3,0,none⟩)))],
    .box b16 [.ro 4 (q.2.1.map RC.enc)] 112::.box b17 [.ro 4 (q.2.2.1.map RC.enc)] 112::.own wx 1 (ints .i64 (xsJ A B y)) 3::.own vo 4 ((outJ k A B i++cellJ k A B y z (xsJ A B y) j).map RC.enc) 200::.box b10 [.ro 4 ((leftW y WA).map RC.enc)] 256::.box b11 [.ro 4 ((leftW y WB).map RC.enc)] 256::.own wy 1 (ints .i64 (ysJ A B)) 3::.box b3 [.val (.func (.func f) #[] #[])] 217::.box b6 [.val (.slice none 0 0)] 114::h⟩)
   (Φ:=fun q=>q.1≤(xsJ A B y).length - 1∧(q.2.1.Sublist PA∧∀x',(∀j,j<q.1→(xsJ A B y).getD j 0≤x')→inC x' q.2.1=inC x' PA)∧(q.2.2.1.Sublist PB∧∀x',(∀j,j<q.1→(xsJ A B y).getD j 0≤x')→inC x' q.2.2.1=inC x' PB))
   (μ:=fun q=>(xsJ A B y).length - q.1) (0,PA,PB,vo) (by dsimp only;rw[show cellJ k A B y z (xsJ A B y) 0=[] from rfl,List.append_nil];exact lee) ⟨Nat.zero_le _,⟨List.Sublist.refl _,fun _ _=>rfl⟩,List.Sublist.refl _,fun _ _=>rfl⟩ ?_
  rintro⟨j,RA,RB,vo2⟩ ⟨hj,⟨sRA,iA⟩,sRB,iB⟩
  dsimp only at hj sRA iA sRB iB ⊢
  have lRA:=sRA.length_le
  have lRB:=sRB.length_le
  have hcl:=cellJ_len k A B y z (xsJ A B y) j
  have hol2:(outJ k A B i++cellJ k A B y z (xsJ A B y) j).length≤291600:=by rw[List.length_append];omega
  rcases Nat.lt_or_ge (j+1) (xsJ A B y).length with hltx|hgex
  ·obtain⟨x,hx⟩:∃x,(xsJ A B y)[j]?=some x:=⟨_,List.getElem?_eq_getElem (by omega)⟩
   obtain⟨xz,hxz⟩:∃xz,(xsJ A B y)[j+1]?=some xz:=⟨_,List.getElem?_eq_getElem hltx⟩
   have hxz':(xsJ A B y)[((j:Int)+1).toNat]?=some xz:=by rw[show ((j:Int)+1).toNat=j+1 by omega];exact hxz
   obtain⟨xM1,xM2⟩:=xsJ_inM cA cB (List.mem_of_getElem? hx)
   obtain⟨xzM1,xzM2⟩:=xsJ_inM cA cB (List.mem_of_getElem? hxz)
   have hxd:=getD_of hx
   have hxzd:=getD_of hxz
   have hbefx:∀m,m<j→(xsJ A B y).getD m 0≤x:=fun m hm=>by
    rw[←hxd];exact Int.le_of_lt (up_lt hupx hm (by omega))
   have aA:acrossF x RA=hasR A x y:=by rw[acrossF_eq (xPA.sublist sRA),iA x hbefx,←hPA,inC_row]
   have aB:acrossF x RB=hasR B x y:=by rw[acrossF_eq (xPB.sublist sRB),iB x hbefx,←hPB,inC_row]
   have kA:=across_c RA x b16
   have kB:=across_c RB x b17
   rw[aA] at kA
   rw[aB] at kB
   have hcs:cellJ k A B y z (xsJ A B y) (j+1)=cellJ k A B y z (xsJ A B y) j++if k (hasR A x y) (hasR B x y) then [⟨x,y,xz - x,z - y⟩] else []:=by
    unfold cellJ
    rw[List.range_succ,List.flatMap_append]
    simp only[List.flatMap_cons,List.flatMap_nil,List.append_nil,hxd,hxzd]
   have hnA:leftC x RA |>.Sublist PA:=(List.dropWhile_sublist _).trans sRA
   have hnB:leftC x RB |>.Sublist PB:=(List.dropWhile_sublist _).trans sRB
   have hjA:∀x',(∀m,m<j+1→(xsJ A B y).getD m 0≤x')→inC x' (leftC x RA)=inC x' PA:=fun x' hx'=>by
    rw[leftC_in (by rw[←hxd];exact hx' j (by omega)),iA x' fun m hm=>hx' m (by omega)]
   have hjB:∀x',(∀m,m<j+1→(xsJ A B y).getD m 0≤x')→inC x' (leftC x RB)=inC x' PB:=fun x' hx'=>by
    rw[leftC_in (by rw[←hxd];exact hx' j (by omega)),iB x' fun m hm=>hx' m (by omega)]
   have hkk:=hk (hasR A x y) (hasR B x y)
   generalize hasR A x y=pA at *
   generalize hasR B x y=pB at *
   generalize hO:outJ k A B i++cellJ k A B y z (xsJ A B y) j=O at *
   (repeat' ((fail_if_success (refine drg ?_));(first|refine svE ⟨?_⟩|refine .b fun b=>?_|refine .u fun u=>?_|refine .d ?_ ?_|(refine .g fun hg=>?_;try exact svx)|fail)))
   refine W.dr (by (repeat (apply Sel.ro));exact Sel.done _) ?_
   (repeat' ((fail_if_success (refine drg ?_));(first|refine svE ⟨?_⟩|refine .b fun b=>?_|refine .u fun u=>?_|refine .d ?_ ?_|(refine .g fun hg=>?_;try exact svx)|fail)))
   refine W.dr (.rw (.rw (.rw (.rw (.rw (.rw (.rw (.ro (.done _)))))))))  ?_
   (repeat' first|refine svE ⟨?_⟩|refine .b fun b=>?_|refine .u fun u=>?_|refine .d ?_ ?_|(refine .g fun hg=>?_;try exact svx)|fail)
   refine R2.later ?_
   (repeat' first|refine svE ⟨?_⟩|refine .b fun b=>?_|refine .u fun u=>?_|refine .d ?_ ?_|(refine .g fun hg=>?_;try exact svx)|fail)
   refine R2.back ?_
   refine R2.B ?_
   refine S.call ?_;refine (kA _ (by omega) (fun r hr=>cnA r (sPA.subset (sRA.subset hr)))).mono ?_;rintro r h' ⟨rfl,hh⟩;subst hh
   refine kd ?_
   (repeat' first|refine svE ⟨?_⟩|refine .b fun b=>?_|refine .u fun u=>?_|refine .d ?_ ?_|(refine .g fun hg=>?_;try exact svx)|fail)
   refine R2.B ?_
   refine Step.le (s':=⟨101,[(88,.val (.int .i64 x)),(17,.val (.pointer (some ⟨b17,0,none⟩)))],.box b17 [.ro 4 (RB.map RC.enc)] 112::.box b16 [.ro 4 ((leftC x RA).map RC.enc)] 112::.own wx 1 (ints .i64 (xsJ A B y)) 3::.own vo2 4 (O.map RC.enc) 200::.box b10 [.ro 4 ((leftW y WA).map RC.enc)] 256::.box b11 [.ro 4 ((leftW y WB).map RC.enc)] 256::.own wy 1 (ints .i64 (ysJ A B)) 3::.box b6 [.val (.slice none 0 0)] 114::h⟩) lee ?_
   refine S.call ?_;refine (kB _ (by omega) (fun r hr=>cnB r (sPB.subset (sRB.subset hr)))).mono ?_;rintro r h' ⟨rfl,hh⟩;subst hh
   refine kd ?_
   (repeat' first|refine svE ⟨?_⟩|refine .b fun b=>?_|refine .u fun u=>?_|refine .d ?_ ?_|(refine .g fun hg=>?_;try exact svx)|fail)
   refine R2.B ?_
   refine S.callv (.fn _) ?_
   refine (hkk _).mono ?_
   rintro r h' ⟨rfl,hh⟩;subst hh
   refine kd ?_
   cases hkv:k pA pB with
   | true=>
    rw[hkv,if_pos rfl] at hcs
    (repeat' first|refine svE ⟨?_⟩|refine .b fun b=>?_|refine .u fun u=>?_|refine .d ?_ ?_|(refine .g fun hg=>?_;try exact svx)|fail)
    exact⟨(j+1,leftC x RA,leftC x RB,u),⟨by dsimp only;omega,⟨hnA,hjA⟩,hnB,hjB⟩,by dsimp only;rw[hcs,←List.append_assoc,hO,List.map_append];exact lee,by dsimp only;omega⟩
   | false=>
    rw[hkv,if_neg (by simp),List.append_nil] at hcs
    (repeat' first|refine svE ⟨?_⟩|refine .b fun b=>?_|refine .u fun u=>?_|refine .d ?_ ?_|(refine .g fun hg=>?_;try exact svx)|fail)
    exact⟨(j+1,leftC x RA,leftC x RB,vo2),⟨by dsimp only;omega,⟨hnA,hjA⟩,hnB,hjB⟩,by dsimp only;rw[hcs,hO];exact lee,by dsimp only;omega⟩
  ·have hjj:j=(xsJ A B y).length - 1:=by omega
   have hos:outJ k A B (i+1)=outJ k A B i++cellJ k A B y z (xsJ A B y) j:=by
    unfold outJ
    rw[List.range_succ,List.flatMap_append]
    simp only[List.flatMap_cons,List.flatMap_nil,List.append_nil,hyd,hzd]
    rw[hjj];rfl
   rw[←hos]
   have hnA:leftW y WA |>.Sublist A:=(leftW_sub y WA).trans sA
   have hnB:leftW y WB |>.Sublist B:=(leftW_sub y WB).trans sB
   have hjA:∀y',(∀m,m<i+1→(ysJ A B).getD m 0≤y')→(leftW y WA).filter (cross y')=A.filter (cross y'):=fun y' hy'=>by
    rw[leftW_filter (by rw[←hyd];exact hy' i (by omega)),fA y' fun m hm=>hy' m (by omega)]
   have hjB:∀y',(∀m,m<i+1→(ysJ A B).getD m 0≤y')→(leftW y WB).filter (cross y')=B.filter (cross y'):=fun y' hy'=>by
    rw[leftW_filter (by rw[←hyd];exact hy' i (by omega)),fB y' fun m hm=>hy' m (by omega)]
   (repeat' first|refine svE ⟨?_⟩|refine .b fun b=>?_|refine .u fun u=>?_|refine .d ?_ ?_|(refine .g fun hg=>?_;try exact svx)|fail)
   exact⟨(i+1,leftW y WA,leftW y WB,vo2),⟨by dsimp only;omega,⟨hnA,hjA⟩,hnB,hjB⟩,lee,by dsimp only;omega⟩
 ·have hii:i=(ysJ A B).length - 1:=by omega
  have hcn:=outJ_cnt (k:=k) (A:=A) (B:=B) (fun r hr=>(List.mem_append.1 hr).elim (cnA r) (cnB r)) (n:=i) (by omega)
  have hres:joinJ k A B=ofF (outJ k A B i):=by unfold joinJ;rw[hii]
  rw[hres]
  (repeat' first|refine svE ⟨?_⟩|refine .b fun b=>?_|refine .u fun u=>?_|refine .d ?_ ?_|(refine .g fun hg=>?_;try exact svx)|fail)
  refine Step.frz (v:=vo) (by (fail_if_success (apply tkG));(repeat (first|exact Tk.here|apply Tk.there));first|done|fail) (by repeat' (first|apply FrzT.cons|exact FrzT.rest _|exact Frz.hit|apply Frz.aggc|apply Frz.tupc|exact Frz.aggn|exact Frz.tupn|exact Frz.keep _)) (by repeat' (first|apply FrzH.box|apply FrzH.keep|exact FrzH.rest _|exact Frz.hit|apply Frz.aggc|apply Frz.tupc|exact Frz.aggn|exact Frz.tupn|exact Frz.keep _)) ?_
  refine S.call ?_;refine (of_c (outJ k A B i) _ (by omega) (fun r hr=>(hcn r hr).ok)).mono ?_;rintro r h' ⟨rfl,hh⟩;subst hh
  (repeat' first|refine svE ⟨?_⟩|refine .b fun b=>?_|refine .u fun u=>?_|refine .d ?_ ?_|(refine .g fun hg=>?_;try exact svx)|fail)
  exact fin_r (h':=h) ⟨rfl,rfl⟩
end Go.Proofs.YtbknacpdcdkjiaaGreat
