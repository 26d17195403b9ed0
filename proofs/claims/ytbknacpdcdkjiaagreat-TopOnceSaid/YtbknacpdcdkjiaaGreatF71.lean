import Derived.Test.YtbknacpdcdkjiaaGreatVM46
/- Are they just the inputs of a device? No condition. -/
namespace Go.Proofs.YtbknacpdcdkjiaaGreat
open Go Go.VM
set_option maxRecDepth 100000
attribute [local irreducible] PurV Pur Step RL W D ACalls Then InBlock Fini
set_option linter.unusedVariables false
set_option linter.unusedSimpArgs false
set_option maxHeartbeats 20000000
instance:TEqA Tryz.prog 165 2 3:=⟨by kernel_rfl,by kernel_rfl,by kernel_rfl,by kernel_rfl,by kernel_rfl⟩
theorem tkn_take {p:Bool} {L:List IN} {i:Nat} {d:IN} (h:L[i]?=some d):tkn p (L.take (i+1))=tkn p (L.take i)++(if inP p d then [inT d] else []):=by
 rw[List.take_add_one,h,Option.toList_some,tkn_app]
 congr 1
 unfold tkn
 rw[List.filter_cons]
 split<;>rfl
theorem tkn_at {p:Bool} {L:List IN} {i:Nat} {d:IN} (h:L[i]?=some d) (hp:inP p d=true):(tkn p L)[(tkn p (L.take i)).length]?=some (inT d):=by
 have e:tkn p L=tkn p (L.take (i+1))++tkn p (L.drop (i+1)):=by rw[←tkn_app,List.take_append_drop]
 rw[e,tkn_take h,if_pos hp,List.append_assoc,List.getElem?_append_right (Nat.le_refl _),Nat.sub_self];rfl
theorem osame_c (p:Bool) (T:List IN) (H:Heap) (hll:T.length≤1000000) (ht:∀i∈T,0≤i.t∧i.t≤4294967295) :
  ACalls Tryz.prog 24 [.ro 3 ((tkn p T).map trE),.ro 6 (T.map IN.enc),AV.val (.bool (p))] H (fun r h'=>r=AV.val (.bool (true))∧h'=H):=by
 have hT:∀(j:Nat) (d:IN),T[j]?=some d→(T.map IN.enc)[j]?=some (.agg [AV.val (.int .i64 ((d).k)),AV.val (.int .i64 ((d).c)),AV.val (.int .i64 ((d).x)),AV.val (.int .i64 ((d).y)),AV.val (.int .u32 ((d).t)),AV.val (.int .i64 ((d).n))]):=fun j d hj=>by rw[List.getElem?_map,hj];rfl
 have hW:∀(j:Nat) (d:IN),T[j]?=some d→inP p d=true→((tkn p T).map trE)[(tkn p (T.take j)).length]?=some (.agg [AV.val (.int .i64 (d.k)),AV.val (.int .i64 (d.c)),AV.val (.int .i64 (d.t))]):=fun j d hj hp=>by
  rw[List.getElem?_map,tkn_at hj hp];rfl
 have hlT:(T.map IN.enc).length=T.length:=List.length_map ..
 have hlW:((tkn p T).map trE).length=(tkn p T).length:=List.length_map ..
 have hcmp:∀i,(tkn p (T.take i)).length≤(tkn p T).length:=fun i=>by
  have e:tkn p T=tkn p (T.take i)++tkn p (T.drop i):=by rw[←tkn_app,List.take_append_drop]
  rw[e,List.length_append];omega
 have hsm:(tkn p T).length≤T.length:=by unfold tkn;rw[List.length_map];exact List.length_filter_le _ _
 generalize T.map IN.enc=AL at *
 generalize (tkn p T).map trE=WW at *
 refine ACalls.intro Tryz.func24 rfl Tryz.ntmps24 Tryz.results24 (Nat.le_of_ble_eq_true rfl) ?_
 (repeat' first|refine svE ⟨?_⟩|refine .b fun b=>?_|refine .u fun u=>?_|refine .d ?_ ?_|(refine .g fun hg=>?_;try exact svx)|fail)
 refine W.loop (J:=fun z:Nat=>⟨47,[(12,AV.val (.int .i64 ((z:Nat)))),(11,AV.val (.int .i64 ((AL.length:Nat)))),(10,.ro 6 AL),(7,AV.val (.int .i64 (((tkn p (T.take z)).length:Nat)))),(0,.ro 3 WW),(2,AV.val (.bool (p)))],H⟩)
  (Φ:=fun z=>z≤T.length) (μ:=fun z=>T.length - z) 0 lee (Nat.zero_le _) ?_
 intro i hi
 dsimp only at hi ⊢
 rcases Nat.lt_or_ge i T.length with hlt|hge
 ·obtain⟨d,hst⟩:∃d,T[i]?=some d:=⟨_,List.getElem?_eq_getElem hlt⟩
  have hat:=hT i d hst
  have et:=congrArg List.length (tkn_take (p:=p) hst)
  have hdt:=ht d (List.mem_of_getElem? hst)
  have hp:inP p d=decide (decide (3≤d.k)=p):=rfl
  have hwt:=hW i d hst
  rw[hp] at et hwt
  have hc0:=hcmp (i+1)
  clear hT hW ht hp
  by_cases h3:3≤d.k
  ·rw[decide_eq_true h3] at et hwt
   cases p with
   | true=>have hne:¬ (decide (3≤d.k)≠true):=(by simp[h3]);rw[if_pos (decide_eq_true rfl),List.length_append,List.length_singleton] at et;have hw2:=hwt (decide_eq_true rfl);generalize (tkn true (T.take i)).length=m at *;rw[et] at hc0;clear hwt hst hcmp;(repeat' first|refine svE ⟨?_⟩|refine .b fun b=>?_|refine .u fun u=>?_|refine .d ?_ ?_|(refine .g fun hg=>?_;try exact svx)|fail);refine R2.T (v:=.agg [AV.val (.int .i64 (d.k)),AV.val (.int .i64 (d.c)),AV.val (.int .i64 (d.t))]) ?_ (hp:=.l rfl (pur_buildarr (by repeat (first|exact EvalP.nil|(apply EvalP.cons;rfl))) rfl).pur);(repeat' first|refine svE ⟨?_⟩|refine .b fun b=>?_|refine .u fun u=>?_|refine .d ?_ ?_|(refine .g fun hg=>?_;try exact svx)|fail);refine R2.T (v:=AV.val (.bool (false))) ?_ (hp:=.vo rfl (pur_neqa rfl rfl (by repeat (first|exact IEq.nil|apply IEq.cons)) rfl));(repeat' first|refine svE ⟨?_⟩|refine .b fun b=>?_|refine .u fun u=>?_|refine .d ?_ ?_|(refine .g fun hg=>?_;try exact svx)|fail);refine⟨i+1,hlt,?_,by omega⟩;rw[et];exact lee
   | false=>have hne:decide (3≤d.k)≠false:=(by simp[h3]);rw[if_neg (by decide),List.append_nil] at et;clear hwt hst hcmp;(repeat' first|refine svE ⟨?_⟩|refine .b fun b=>?_|refine .u fun u=>?_|refine .d ?_ ?_|(refine .g fun hg=>?_;try exact svx)|fail);refine⟨i+1,hlt,?_,by omega⟩;rw[et];exact lee
  ·rw[decide_eq_false h3] at et hwt
   cases p with
   | true=>have hne:decide (3≤d.k)≠true:=(by simp[h3]);rw[if_neg (by decide),List.append_nil] at et;clear hwt hst hcmp;(repeat' first|refine svE ⟨?_⟩|refine .b fun b=>?_|refine .u fun u=>?_|refine .d ?_ ?_|(refine .g fun hg=>?_;try exact svx)|fail);refine⟨i+1,hlt,?_,by omega⟩;rw[et];exact lee
   | false=>have hne:¬ (decide (3≤d.k)≠false):=(by simp[h3]);rw[if_pos (decide_eq_true rfl),List.length_append,List.length_singleton] at et;have hw2:=hwt (decide_eq_true rfl);generalize (tkn false (T.take i)).length=m at *;rw[et] at hc0;clear hwt hst hcmp;(repeat' first|refine svE ⟨?_⟩|refine .b fun b=>?_|refine .u fun u=>?_|refine .d ?_ ?_|(refine .g fun hg=>?_;try exact svx)|fail);refine R2.T (v:=.agg [AV.val (.int .i64 (d.k)),AV.val (.int .i64 (d.c)),AV.val (.int .i64 (d.t))]) ?_ (hp:=.l rfl (pur_buildarr (by repeat (first|exact EvalP.nil|(apply EvalP.cons;rfl))) rfl).pur);(repeat' first|refine svE ⟨?_⟩|refine .b fun b=>?_|refine .u fun u=>?_|refine .d ?_ ?_|(refine .g fun hg=>?_;try exact svx)|fail);refine R2.T (v:=AV.val (.bool (false))) ?_ (hp:=.vo rfl (pur_neqa rfl rfl (by repeat (first|exact IEq.nil|apply IEq.cons)) rfl));(repeat' first|refine svE ⟨?_⟩|refine .b fun b=>?_|refine .u fun u=>?_|refine .d ?_ ?_|(refine .g fun hg=>?_;try exact svx)|fail);refine⟨i+1,hlt,?_,by omega⟩;rw[et];exact lee
 ·rw[List.take_of_length_le hge]
  (repeat' first|refine svE ⟨?_⟩|refine .b fun b=>?_|refine .u fun u=>?_|refine .d ?_ ?_|(refine .g fun hg=>?_;try exact svx)|fail)
  refine fin_r (h':=H) (Q:=fun r h'=>r=_∧h'=H) ⟨?_,rfl⟩
  refine congrArg (fun q=>AV.val (.bool q)) (decide_eq_true ?_)
  omega
end Go.Proofs.YtbknacpdcdkjiaaGreat

/- The state that TopOnce starts with. No condition. -/
namespace Go.Proofs.YtbknacpdcdkjiaaGreat
open Go Go.VM
set_option maxRecDepth 100000
attribute [local irreducible] PurV Pur Step RL W D ACalls Then InBlock Fini
set_option linter.unusedVariables false
set_option linter.unusedSimpArgs false
set_option maxHeartbeats 20000000
def st0:RT:=⟨k0,up0,orF k0 up0 t0,vwF k0 up0 t0,M0,[],1,1,0,DV.z,DV.z,1,1,0,0,0,0,1⟩
theorem look_at {k:SVT} {up:UP} {t:PW} (Q:PWOk k up t) {w h:Int} (hr:lkF t 1=some (rootB w h)) {x y:Int} (hx:0≤x∧x<w) (hy:0≤y∧y<h):atF (orF k up t) (vwF k up t) x y=some (lookF k up t x y):=by
 obtain⟨_,h1,s,h2,h3⟩:=Q.onP hr hx hy
 have hbm:=top_bel (bx:=t) (ox:=oX up t) (oy:=oY up t) (x:=x) (y:=y) Q.w (up.length+1) 1 (by unfold rkF;omega)
 have hlo:lookF k up t x y∈orF k up t:=orF_of (by rw[h2];rfl) hbm
 cases e:atF (orF k up t) (vwF k up t) x y with
 | none=>
  unfold atF at e
  have:=List.find?_eq_none.1 e _ hlo
  unfold clF at this
  rw[h2] at this
  exact absurd h3 this
 | some id=>
  unfold atF at e
  have g1:=List.find?_some e
  unfold clF at g1
  cases e2:lkF (vwF k up t) id with
  | none=>rw[e2] at g1;cases g1
  | some s'=>
   rw[e2] at g1
   rw[h1 id s' e2 g1]
theorem st0_look:lookF k0 up0 t0 1 1=1:=by
 unfold lookF
 show topF t0 (ofS k0) (oX up0 t0) (oY up0 t0) 1 1 2 1=1
 have hb:BW.Ok ⟨3,2,5,4,true,0,false,[]⟩:=⟨by dsimp only;omega,by dsimp only;omega,by dsimp only;omega,by dsimp only;omega,by dsimp only;omega,Bx.nil _ _,fun _=>rfl⟩
 have h1:=om_pw.o_root.1
 have:(ofS k0 1).reverse.find? (inW t0 (oX up0 t0) (oY up0 t0) 1 1 1)=none:=by
  refine List.find?_eq_none.2 fun c hc=>?_
  have:c=2097153:=List.mem_singleton.1 hc
  subst this
  unfold inW
  rw[show lkF t0 2097153=some ⟨3,2,5,4,true,0,false,[]⟩ from rfl]
  dsimp only
  rw[hb.area_has,h1]
  simp
 unfold topF
 rw[this]
theorem st0_at:atF (orF k0 up0 t0) (vwF k0 up0 t0) 1 1=some 1:=by
 rw[look_at om_pw (w:=12) (h:=9) rfl (by omega) (by omega),st0_look]
theorem ostart_c (H:Heap):ACalls Tryz.prog 20 [] H (fun r h'=>r=.tup [st0.enc,AV.val (.bool (true))]∧h'=H):=by
 have nw:=fun h=>new_c h
 have pn:=fun h=>pnew_c 12 9 h (by decide) (by decide)
 have hb:BW.Ok ⟨3,2,5,4,true,0,false,[]⟩:=⟨by dsimp only;omega,by dsimp only;omega,by dsimp only;omega,by dsimp only;omega,by dsimp only;omega,Bx.nil _ _,fun _=>rfl⟩
 have ps:=fun h=>pset_c [(1,rootB 12 9)] 2097153 ⟨3,2,5,4,true,0,false,[]⟩ h (by decide) (by decide) (by decide) (by decide +kernel) hb (by decide) (by decide)
 have tw:=TW.start
 have ad:=fun h=>add_c [] [] 2097153 1 h (by decide) (by decide) (by decide +kernel) rfl (by decide +kernel) (by decide) tw.kn tw.un (by simp) (by decide) (by decide)
 have cs1:=fun h=>cset_c [] [] 1 1 31 h (by simp) (by simp) (by decide) (by decide) (by decide) (by decide) (by decide) (fun o _=>by show bitsI .and .i64 (bitsI .and .i64 0 31) 2052=0;decide +kernel)
 have cs2:=fun h=>cset_c [((1,1),31)] [] 2 2097153 19 h (by simp) (by simp) (by decide) (by decide) (by decide) (by decide) (by decide) (fun o _=>by
  have:mkF [((1,1),31)] o 2097153=0:=by
   unfold mkF lkK
   rw[List.find?_cons,decide_eq_false (by intro e;injection e with _ e;cases e)];rfl
  rw[this];decide +kernel)
 have vo:=fun h=>vof_c k0 up0 t0 om_pw h (by decide +kernel)
 have va:=fun h=>vat_c (orF k0 up0 t0) (vwF k0 up0 t0) 1 1 h om_pw.vok (by decide +kernel)
 rw[st0_at] at va
 unfold st0
 clear tw hb
 rw[show putF ([]:SVT) 1 (ofS [] 1++[2097153])=k0 from rfl,show putF ([]:UP) 2097153 1=up0 from rfl] at ad
 rw[show putK ([]:CM) (1,1) 31=[((1,1),31)] from rfl] at cs1
 rw[show putK ([((1,1),31)]:CM) (2,2097153) 19=M0 from rfl] at cs2
 rw[show putF [(1,rootB 12 9)] 2097153 (⟨3,2,5,4,true,0,false,[]⟩:BW)=t0 from rfl,show vBox (⟨3,2,5,4,true,0,false,[]⟩:BW)=.agg [AV.val (.int .i64 (3)),AV.val (.int .i64 (2)),AV.val (.int .i64 (5)),AV.val (.int .i64 (4)),AV.val (.bool (true)),AV.val (.int .i64 (0)),AV.val (.int .i64 (0)),AV.val (.bool (false)),.ro 4 []] from rfl] at ps
 have ps2:=fun h=>(ps h).args (vs:=[encP [(1,rootB 12 9)],AV.val (.int .u32 (2097153)),.agg [AV.val (.int .i64 (3)),AV.val (.int .i64 (2)),AV.val (.int .i64 (5)),AV.val (.int .i64 (4)),AV.val (.bool (true)),AV.val (.int .i64 (0)),AV.val (.int .i64 (0)),AV.val (.bool (false)),.val (.slice none 0 0)]]) (by (repeat (first|exact Wk.refl _|exact Wk.nilr _|exact Wk.nilm|apply Wk.aggc|apply Wk.tupc|exact Wk.aggn|exact Wk.tupn));first|done|fail)
 clear ps
 rw[show encV k0 up0 t0=encW (orF k0 up0 t0) (vwF k0 up0 t0) from rfl] at vo
 generalize orF k0 up0 t0=O at *
 generalize vwF k0 up0 t0=V at *
 generalize t0=T0 at *
 generalize k0=K0 at *
 generalize up0=U0 at *
 generalize ([(1,rootB 12 9)]:PW)=T1 at *
 generalize ([((1,1),31)]:CM)=M1 at *
 generalize M0=M2 at *
 rw[show atV (some 1)=.tup [AV.val (.int .u32 (1)),AV.val (.bool (true))] from rfl] at va
 unfold encT encP encC encW RT.enc DV.z AC.z IN.z at *
 have cs1b:=fun h=>(cs1 h).args (vs:=[.agg [.val (.map none),.val (.map none)],AV.val (.int .i64 (1)),AV.val (.int .u32 (1)),AV.val (.int .i64 (31))]) (by (repeat (first|exact Wk.refl _|exact Wk.nilr _|exact Wk.nilm|apply Wk.aggc|apply Wk.tupc|exact Wk.aggn|exact Wk.tupn));first|done|fail)
 clear cs1
 refine ACalls.wk (Q:=fun r h'=>r=.tup [.agg (mapV .u32 vIds K0::mapV .u32 (vI .u32) U0::AV.ro 1 (ints .u32 (O))::mapV .u32 vSW V::mapK (vI .i64) M2::mapV .u32 (vI .i64) []::AV.val (.int .u32 (1))::AV.val (.int .i64 (1))::AV.val (.int .u32 (0))::.val (.slice none 0 0)::AV.val (.int .i64 (0))::AV.val (.int .u32 (0))::AV.val (.bool (false))::AV.val (.int .i64 (0))::AV.val (.bool (false))::AV.val (.bool (false))::AV.val (.int .i64 (0))::AV.val (.int .u32 (0))::AV.val (.bool (false))::AV.val (.bool (false))::AV.val (.bool (false))::AV.val (.int .i64 (0))::AV.val (.int .i64 (0))::AV.val (.int .i64 (0))::AV.val (.int .i64 (0))::AV.val (.int .u32 (0))::AV.val (.int .i64 (0))::AV.val (.bool (false))::.val (.slice none 0 0)::AV.val (.int .i64 (0))::AV.val (.int .u32 (0))::AV.val (.bool (false))::AV.val (.int .i64 (0))::AV.val (.bool (false))::AV.val (.bool (false))::AV.val (.int .i64 (0))::AV.val (.int .u32 (0))::AV.val (.bool (false))::AV.val (.bool (false))::AV.val (.bool (false))::AV.val (.int .i64 (0))::AV.val (.int .i64 (0))::AV.val (.int .i64 (0))::AV.val (.int .i64 (0))::AV.val (.int .u32 (0))::AV.val (.int .i64 (0))::AV.val (.bool (false))::.val (.slice none 0 0)::AV.val (.int .i64 (1))::AV.val (.int .i64 (1))::AV.val (.int .i64 (0))::AV.val (.int .i64 (0))::AV.val (.int .i64 (0))::AV.val (.int .u32 (0))::AV.val (.int .u32 (1))::[]),AV.val (.bool (true))]∧h'=H) ?_ ?_
 rotate_left
 ·rintro r h' ⟨rfl,rfl⟩
  exact⟨_,(by (repeat (first|exact Wk.refl _|exact Wk.nilr _|exact Wk.nilm|apply Wk.aggc|apply Wk.tupc|exact Wk.aggn|exact Wk.tupn));first|done|fail),rfl,rfl⟩
 refine ACalls.intro Tryz.func20 rfl Tryz.ntmps20 Tryz.results20 (Nat.le_of_ble_eq_true rfl) ?_
 (repeat' first|refine svE ⟨?_⟩|refine .b fun b=>?_|refine .u fun u=>?_|refine .d ?_ ?_|(refine .g fun hg=>?_;try exact svx)|fail)
 refine S.call ?_;refine (pn _).mono ?_;rintro r h' ⟨rfl,hh⟩;subst hh
 (repeat' first|refine svE ⟨?_⟩|refine .b fun b=>?_|refine .u fun u=>?_|refine .d ?_ ?_|(refine .g fun hg=>?_;try exact svx)|fail)
 refine S.call ?_;refine (ps2 _).mono ?_;rintro r h' ⟨rfl,hh⟩;subst hh
 (repeat' first|refine svE ⟨?_⟩|refine .b fun b=>?_|refine .u fun u=>?_|refine .d ?_ ?_|(refine .g fun hg=>?_;try exact svx)|fail)
 refine S.call ?_;refine (nw _).mono ?_;rintro r h' ⟨rfl,hh⟩;subst hh
 (repeat' first|refine svE ⟨?_⟩|refine .b fun b=>?_|refine .u fun u=>?_|refine .d ?_ ?_|(refine .g fun hg=>?_;try exact svx)|fail)
 refine S.call ?_;refine (ad _).mono ?_;rintro r h' ⟨rfl,hh⟩;subst hh
 (repeat' first|refine svE ⟨?_⟩|refine .b fun b=>?_|refine .u fun u=>?_|refine .d ?_ ?_|(refine .g fun hg=>?_;try exact svx)|fail)
 refine S.call ?_;refine (cs1b _).mono ?_;rintro r h' ⟨rfl,hh⟩;subst hh
 (repeat' first|refine svE ⟨?_⟩|refine .b fun b=>?_|refine .u fun u=>?_|refine .d ?_ ?_|(refine .g fun hg=>?_;try exact svx)|fail)
 refine S.call ?_;refine (cs2 _).mono ?_;rintro r h' ⟨rfl,hh⟩;subst hh
 (repeat' first|refine svE ⟨?_⟩|refine .b fun b=>?_|refine .u fun u=>?_|refine .d ?_ ?_|(refine .g fun hg=>?_;try exact svx)|fail)
 refine W.dr (.ro (.ro (.ro (.ro (.ro (.rw (.rw (.done _)))))))) ?_
 (repeat' first|refine svE ⟨?_⟩|refine .b fun b=>?_|refine .u fun u=>?_|refine .d ?_ ?_|(refine .g fun hg=>?_;try exact svx)|fail)
 refine R2.C (vo _) ?_
 (repeat' first|refine svE ⟨?_⟩|refine .b fun b=>?_|refine .u fun u=>?_|refine .d ?_ ?_|(refine .g fun hg=>?_;try exact svx)|fail)
 refine S.store_any ?_ (hl:=Nat.le_of_ble_eq_true rfl)
 (repeat' first|refine svE ⟨?_⟩|refine .b fun b=>?_|refine .u fun u=>?_|refine .d ?_ ?_|(refine .g fun hg=>?_;try exact svx)|fail)
 refine S.store_any ?_ (hl:=Nat.le_of_ble_eq_true rfl)
 (repeat' first|refine svE ⟨?_⟩|refine .b fun b=>?_|refine .u fun u=>?_|refine .d ?_ ?_|(refine .g fun hg=>?_;try exact svx)|fail)
 refine S.store_any ?_ (hl:=Nat.le_of_ble_eq_true rfl)
 (repeat' first|refine svE ⟨?_⟩|refine .b fun b=>?_|refine .u fun u=>?_|refine .d ?_ ?_|(refine .g fun hg=>?_;try exact svx)|fail)
 refine S.store_any ?_ (hl:=Nat.le_of_ble_eq_true rfl)
 (repeat' first|refine svE ⟨?_⟩|refine .b fun b=>?_|refine .u fun u=>?_|refine .d ?_ ?_|(refine .g fun hg=>?_;try exact svx)|fail)
 refine S.call ?_;refine (va _).mono ?_;rintro r h' ⟨rfl,hh⟩;subst hh
 (repeat' first|refine svE ⟨?_⟩|refine .b fun b=>?_|refine .u fun u=>?_|refine .d ?_ ?_|(refine .g fun hg=>?_;try exact svx)|fail)
 refine W.dr (.ro (.ro (.ro (.ro (.ro (.ro (.rw (.done _)))))))) ?_
 (repeat' first|refine svE ⟨?_⟩|refine .b fun b=>?_|refine .u fun u=>?_|refine .d ?_ ?_|(refine .g fun hg=>?_;try exact svx)|fail)
 exact fin_r (h':=H) (Q:=fun r h'=>r=_∧h'=H) ⟨rfl,rfl⟩
end Go.Proofs.YtbknacpdcdkjiaaGreat
