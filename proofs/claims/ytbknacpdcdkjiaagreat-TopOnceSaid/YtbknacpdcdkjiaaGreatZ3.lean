/- Places with shapes: New, twin, Box, Set, Origin, Area. No condition. -/
import Derived.Test.YtbknacpdcdkjiaaGreatZ5
import Derived.Test.YtbknacpdcdkjiaaGreatQ8
namespace Go.Proofs.YtbknacpdcdkjiaaGreat
open Go Go.VM
set_option maxRecDepth 100000
attribute [local irreducible] PurV Pur Step RL W D ACalls Then InBlock Fini
set_option linter.unusedVariables false
set_option linter.unusedSimpArgs false
set_option maxHeartbeats 20000000
def vBox (b:BW):AV:=.agg [.val (.int .i64 (b.x)),.val (.int .i64 (b.y)),.val (.int .i64 (b.w)),.val (.int .i64 (b.h)),.val (.bool (b.m)),.val (.int .i64 (b.g)),.val (.int .i64 (b.g)),.val (.bool (b.sh)),.ro 4 (b.shape.map RC.enc)]
def encP (t:PW):AV:=.agg [mapV .u32 vBox t]
theorem coord_c (x:Int) (h:Heap):ACalls Tryz.prog 62 [.val (.int .i64 (x))] h (fun r h'=>r=.val (.bool (decide (-32768≤x∧x≤32767)))∧h'=h):=by
 refine ACalls.intro Tryz.func62 rfl Tryz.ntmps62 Tryz.results62 (Nat.le_of_ble_eq_true rfl) ?_
 by_cases h1:-32768≤x
 ·(repeat' first|refine svE ⟨?_⟩|refine .b fun b=>?_|refine .u fun u=>?_|refine .d ?_ ?_|(refine .g fun hg=>?_;try exact svx)|fail)
  refine fin_r (h':=h) ⟨?_,rfl⟩;simp[tupA,h1]
 ·(repeat' first|refine svE ⟨?_⟩|refine .b fun b=>?_|refine .u fun u=>?_|refine .d ?_ ?_|(refine .g fun hg=>?_;try exact svx)|fail)
  refine fin_r (h':=h) ⟨?_,rfl⟩;simp[tupA,h1]
theorem side_c (x:Int) (h:Heap):ACalls Tryz.prog 58 [.val (.int .i64 (x))] h (fun r h'=>r=.val (.bool (decide (1≤x∧x≤128)))∧h'=h):=by
 refine ACalls.intro Tryz.func58 rfl Tryz.ntmps58 Tryz.results58 (Nat.le_of_ble_eq_true rfl) ?_
 by_cases h1:1≤x
 ·(repeat' first|refine svE ⟨?_⟩|refine .b fun b=>?_|refine .u fun u=>?_|refine .d ?_ ?_|(refine .g fun hg=>?_;try exact svx)|fail)
  refine fin_r (h':=h) ⟨?_,rfl⟩;simp[tupA,h1]
 ·(repeat' first|refine svE ⟨?_⟩|refine .b fun b=>?_|refine .u fun u=>?_|refine .d ?_ ?_|(refine .g fun hg=>?_;try exact svx)|fail)
  refine fin_r (h':=h) ⟨?_,rfl⟩;simp[tupA,h1]
theorem grav_c (x:Int) (h:Heap) (h0:0≤x) (h1:x≤10):ACalls Tryz.prog 63 [.val (.int .i64 (x))] h (fun r h'=>r=.val (.int .i64 (0))∧h'=h):=by
 refine ACalls.intro Tryz.func63 rfl Tryz.ntmps63 Tryz.results63 (Nat.le_of_ble_eq_true rfl) ?_
 (repeat' first|refine svE ⟨?_⟩|refine .b fun b=>?_|refine .u fun u=>?_|refine .d ?_ ?_|(refine .g fun hg=>?_;try exact svx)|fail)
 exact fin_r (h':=h) ⟨rfl,rfl⟩
def rootB (w h:Int):BW:=⟨0,0,w,h,true,1,false,[]⟩
theorem rootB_wk (x y:Int):Wk (.agg [.val (.int .i64 (0)),.val (.int .i64 (0)),.val (.int .i64 (x)),.val (.int .i64 (y)),.val (.bool (true)),.val (.int .i64 (1)),.val (.int .i64 (1)),.val (.bool (false)),.val (.slice none 0 0)]) (vBox (rootB x y)):=
 .aggc (.refl _) (.aggc (.refl _) (.aggc (.refl _) (.aggc (.refl _) (.aggc (.refl _) (.aggc (.refl _) (.aggc (.refl _) (.aggc (.refl _) (.aggc (.nilr 4) .aggn))))))))
theorem pnew_c (x y:Int) (h:Heap) (hx:1≤x∧x≤128) (hy:1≤y∧y≤128):ACalls Tryz.prog 27 [.val (.int .i64 (x)),.val (.int .i64 (y))] h (fun r h'=>r=.tup [encP [(1,rootB x y)],.val (.int .i64 (0))]∧h'=h):=by
 have s1:=fun h=>side_c x h
 have s2:=fun h=>side_c y h
 rw[decide_eq_true hx] at s1
 rw[decide_eq_true hy] at s2
 unfold encP
 refine ACalls.intro Tryz.func27 rfl Tryz.ntmps27 Tryz.results27 (Nat.le_of_ble_eq_true rfl) ?_
 (repeat' first|refine svE ⟨?_⟩|refine .b fun b=>?_|refine .u fun u=>?_|refine .d ?_ ?_|(refine .g fun hg=>?_;try exact svx)|fail)
 refine S.call ?_;refine (s1 _).mono ?_;rintro r h' ⟨rfl,hh⟩;subst hh
 (repeat' first|refine svE ⟨?_⟩|refine .b fun b=>?_|refine .u fun u=>?_|refine .d ?_ ?_|(refine .g fun hg=>?_;try exact svx)|fail)
 refine S.call ?_;refine (s2 _).mono ?_;rintro r h' ⟨rfl,hh⟩;subst hh
 (repeat' first|refine svE ⟨?_⟩|refine .b fun b=>?_|refine .u fun u=>?_|refine .d ?_ ?_|(refine .g fun hg=>?_;try exact svx)|fail)
 refine S.mkm0 vBox (fun bm=>?_)
 (repeat' first|refine svE ⟨?_⟩|refine .b fun b=>?_|refine .u fun u=>?_|refine .d ?_ ?_|(refine .g fun hg=>?_;try exact svx)|fail)
 refine S.ins (f:=vBox) (m:=[]) (a:=rootB x y) ?_ (hv:=rootB_wk x y)
 rw[show putF ([]:PW) 1 (rootB x y)=[(1,rootB x y)] from rfl]
 generalize ([(1,rootB x y)]:PW)=t1
 refine RL.frzm (b:=bm) (by (fail_if_success (apply tkG));(repeat (first|exact Tk.here|apply Tk.there));first|done|fail) (by repeat' (first|apply FzT.cons|exact FzT.rest _|exact Fz.hit|apply Fz.aggc|apply Fz.tupc|exact Fz.aggn|exact Fz.tupn|exact Fz.keep _)) (by repeat' (first|apply FzH.box|apply FzH.keep|exact FzH.rest _|exact Fz.hit|apply Fz.aggc|apply Fz.tupc|exact Fz.aggn|exact Fz.tupn|exact Fz.keep _)) ?_
 (repeat' first|refine svE ⟨?_⟩|refine .b fun b=>?_|refine .u fun u=>?_|refine .d ?_ ?_|(refine .g fun hg=>?_;try exact svx)|fail)
 exact fin_r (h':=h) ⟨rfl,rfl⟩
theorem mapV_keys {t:PW} (h:t≠[]):(t.map fun p=>(Value.int .u32 p.1))≠[]:=fun e=>h (List.map_eq_nil_iff.1 e)
theorem mcl_c (t:PW) (h:Heap) (hne:t≠[]):ACalls Tryz.prog 99 [mapV .u32 vBox t] h (fun r h'=>∃b,r=.val (.map (some b))∧h'=mpV b .u32 vBox t::h):=
 mclone_c Tryz.cloneB (mapV_keys hne) h
theorem ptwin_c (t:PW) (h:Heap) (hne:t≠[]):ACalls Tryz.prog 65 [encP t] h (fun r h'=>∃b,r=.agg [.val (.map (some b))]∧h'=mpV b .u32 vBox t::h):=by
 unfold encP
 refine ACalls.intro Tryz.func65 rfl Tryz.ntmps65 Tryz.results65 (Nat.le_of_ble_eq_true rfl) ?_
 (repeat' first|refine svE ⟨?_⟩|refine .b fun b=>?_|refine .u fun u=>?_|refine .d ?_ ?_|(refine .g fun hg=>?_;try exact svx)|fail)
 refine S.call ?_
 refine (mcl_c t _ hne).mono ?_
 rintro r h' ⟨b7,rfl,hh⟩
 subst hh
 (repeat' first|refine svE ⟨?_⟩|refine .b fun b=>?_|refine .u fun u=>?_|refine .d ?_ ?_|(refine .g fun hg=>?_;try exact svx)|fail)
 exact fin_r (h':=mpV b7 .u32 vBox t::h) ⟨b7,rfl,rfl⟩
theorem pbox_c (t:PW) (id:Int) (b0:BW) (h:Heap) (hb:lkF t id=some b0):ACalls Tryz.prog 72 [encP t,.val (.int .u32 (id))] h (fun r h'=>r=.tup [vBox b0,.val (.bool (true))]∧h'=h):=by
 unfold encP
 refine ACalls.intro Tryz.func72 rfl Tryz.ntmps72 Tryz.results72 (Nat.le_of_ble_eq_true rfl) ?_
 (repeat' first|refine svE ⟨?_⟩|refine .b fun b=>?_|refine .u fun u=>?_|refine .d ?_ ?_|(refine .g fun hg=>?_;try exact svx)|fail)
 have e:lkV vBox (.agg [.val (.int .i64 (0)),.val (.int .i64 (0)),.val (.int .i64 (0)),.val (.int .i64 (0)),.val (.bool (false)),.val (.int .i64 (0)),.val (.int .i64 (0)),.val (.bool false),.val (.slice none 0 0)]) (lkF t id)=vBox b0:=by rw[hb];rfl
 rw[e,hb]
 clear e hb
 obtain⟨x,y,wd,ht,m,g,sh,shp⟩:=b0
 unfold vBox
 (repeat' first|refine svE ⟨?_⟩|refine .b fun b=>?_|refine .u fun u=>?_|refine .d ?_ ?_|(refine .g fun hg=>?_;try exact svx)|fail)
 exact fin_r (h':=h) ⟨rfl,rfl⟩
theorem pset_c (t:PW) (id:Int) (b0:BW) (h:Heap) (h0:0≤id) (h1:id≤4294967295) (hid:id≠1) (hic:icF id=0) (ok:b0.Ok) (hne:t≠[]) (hlen:t.length<64) :
  ACalls Tryz.prog 29 [encP t,.val (.int .u32 (id)),vBox b0] h (fun r h'=>r=.tup [encP (putF t id b0),.val (.int .i64 (0))]∧h'=h):=by
 obtain⟨hx,hy,hw,hh,hg,_,hns⟩:=ok
 have ic:=fun h=>icheck_c id h h0 h1
 rw[hic] at ic
 have c1:=fun h=>coord_c b0.x h
 have c2:=fun h=>coord_c b0.y h
 have s1:=fun h=>side_c b0.w h
 have s2:=fun h=>side_c b0.h h
 have g1:=fun h=>grav_c b0.g h hg.1 hg.2
 have e1:=empty_c []
 unfold regE at e1
 rw[decide_eq_true (by omega)] at c1
 rw[decide_eq_true (by omega)] at c2
 rw[decide_eq_true (by omega)] at s1
 rw[decide_eq_true (by omega)] at s2
 have tw:=fun h=>ptwin_c t h hne
 have hpos:0<t.length:=List.length_pos_iff.2 hne
 clear hg hx hy hw hh
 have hlk:∃zx zy zw zh zm zg zs,∃zp:AV,(zp=.val (.slice none 0 0)∨∃l:List RC,zp=.ro 4 (l.map RC.enc))∧lkV vBox (.agg [.val (.int .i64 (0)),.val (.int .i64 (0)),.val (.int .i64 (0)),.val (.int .i64 (0)),.val (.bool (false)),.val (.int .i64 (0)),.val (.int .i64 (0)),.val (.bool false),.val (.slice none 0 0)]) (lkF t id)=.agg [.val (.int .i64 (zx)),.val (.int .i64 (zy)),.val (.int .i64 (zw)),.val (.int .i64 (zh)),.val (.bool (zm)),.val (.int .i64 (zg)),.val (.int .i64 (zg)),.val (.bool (zs)),zp]:=by
  cases lkF t id with
  | none=>exact⟨0,0,0,0,false,0,false,_,.inl rfl,rfl⟩
  | some b=>exact⟨b.x,b.y,b.w,b.h,b.m,b.g,b.sh,_,.inr ⟨_,rfl⟩,rfl⟩
 obtain⟨zx,zy,zw,zh,zm,zg,zs,zp,hzp,hz⟩:=hlk
 obtain⟨x,y,wd,ht,m,g,sh,shp⟩:=b0
 unfold vBox
 dsimp only at *
 unfold encP at *
 rcases hzp with rfl|⟨l,rfl⟩
 all_goals
  cases sh
 ·refine ACalls.intro Tryz.func29 rfl Tryz.ntmps29 Tryz.results29 (Nat.le_of_ble_eq_true rfl) ?_;(repeat' first|refine svE ⟨?_⟩|refine .b fun b=>?_|refine .u fun u=>?_|refine .d ?_ ?_|(refine .g fun hg=>?_;try exact svx)|fail);refine S.call ?_;refine (ic _).mono ?_;rintro r h' ⟨rfl,hh⟩;subst hh;(repeat' first|refine svE ⟨?_⟩|refine .b fun b=>?_|refine .u fun u=>?_|refine .d ?_ ?_|(refine .g fun hg=>?_;try exact svx)|fail);rw[hz];clear hz;generalize (lkF t id).isSome=q;(repeat' first|refine svE ⟨?_⟩|refine .b fun b=>?_|refine .u fun u=>?_|refine .d ?_ ?_|(refine .g fun hg=>?_;try exact svx)|fail);refine S.call ?_;refine (c1 _).mono ?_;rintro r h' ⟨rfl,hh⟩;subst hh;(repeat' first|refine svE ⟨?_⟩|refine .b fun b=>?_|refine .u fun u=>?_|refine .d ?_ ?_|(refine .g fun hg=>?_;try exact svx)|fail);refine S.call ?_;refine (c2 _).mono ?_;rintro r h' ⟨rfl,hh⟩;subst hh;(repeat' first|refine svE ⟨?_⟩|refine .b fun b=>?_|refine .u fun u=>?_|refine .d ?_ ?_|(refine .g fun hg=>?_;try exact svx)|fail);refine S.call ?_;refine (s1 _).mono ?_;rintro r h' ⟨rfl,hh⟩;subst hh;(repeat' first|refine svE ⟨?_⟩|refine .b fun b=>?_|refine .u fun u=>?_|refine .d ?_ ?_|(refine .g fun hg=>?_;try exact svx)|fail);refine S.call ?_;refine (s2 _).mono ?_;rintro r h' ⟨rfl,hh⟩;subst hh;(repeat' first|refine svE ⟨?_⟩|refine .b fun b=>?_|refine .u fun u=>?_|refine .d ?_ ?_|(refine .g fun hg=>?_;try exact svx)|fail);refine S.call ?_;refine (g1 _).mono ?_;rintro r h' ⟨rfl,hh⟩;subst hh;(repeat' first|refine svE ⟨?_⟩|refine .b fun b=>?_|refine .u fun u=>?_|refine .d ?_ ?_|(refine .g fun hg=>?_;try exact svx)|fail);refine S.call ?_;refine (g1 _).mono ?_;rintro r h' ⟨rfl,hh⟩;subst hh;(repeat' first|refine svE ⟨?_⟩|refine .b fun b=>?_|refine .u fun u=>?_|refine .d ?_ ?_|(refine .g fun hg=>?_;try exact svx)|fail)
  rw[hns rfl]
  refine S.call ?_;refine (e1 _).mono ?_;rintro r h' ⟨rfl,hh⟩;subst hh
  (repeat' first|refine svE ⟨?_⟩|refine .b fun b=>?_|refine .u fun u=>?_|refine .d ?_ ?_|(refine .g fun hg=>?_;try exact svx)|fail);all_goals cases q;all_goals ((repeat' first|refine svE ⟨?_⟩|refine .b fun b=>?_|refine .u fun u=>?_|refine .d ?_ ?_|(refine .g fun hg=>?_;try exact svx)|fail);refine S.call ?_;refine (tw _).mono ?_;rintro r h' ⟨b7,rfl,hh⟩;subst hh;(repeat' (first|refine svF ⟨?_⟩|refine .b fun b=>?_|refine .u fun u=>?_|refine .d ?_ ?_|(refine .g fun hg=>?_;try exact svx)|refine sva ?_|refine sv3 ?_|fail));refine S.mapU (f:=vBox) (a:=⟨x,y,wd,ht,m,g,_,[]⟩) ?_;generalize putF t id _=t2;refine RL.nil ?_;refine W.frzm (b:=b7) (by (fail_if_success (apply tkG));(repeat (first|exact Tk.here|apply Tk.there));first|done|fail) (by repeat' (first|apply FzT.cons|exact FzT.rest _|exact Fz.hit|apply Fz.aggc|apply Fz.tupc|exact Fz.aggn|exact Fz.tupn|exact Fz.keep _)) (by repeat' (first|apply FzH.box|apply FzH.keep|exact FzH.rest _|exact Fz.hit|apply Fz.aggc|apply Fz.tupc|exact Fz.aggn|exact Fz.tupn|exact Fz.keep _)) ?_;(repeat' first|refine svE ⟨?_⟩|refine .b fun b=>?_|refine .u fun u=>?_|refine .d ?_ ?_|(refine .g fun hg=>?_;try exact svx)|fail);exact fin_r (h':=h) ⟨rfl,rfl⟩)
 ·refine ACalls.intro Tryz.func29 rfl Tryz.ntmps29 Tryz.results29 (Nat.le_of_ble_eq_true rfl) ?_;(repeat' first|refine svE ⟨?_⟩|refine .b fun b=>?_|refine .u fun u=>?_|refine .d ?_ ?_|(refine .g fun hg=>?_;try exact svx)|fail);refine S.call ?_;refine (ic _).mono ?_;rintro r h' ⟨rfl,hh⟩;subst hh;(repeat' first|refine svE ⟨?_⟩|refine .b fun b=>?_|refine .u fun u=>?_|refine .d ?_ ?_|(refine .g fun hg=>?_;try exact svx)|fail);rw[hz];clear hz;generalize (lkF t id).isSome=q;(repeat' first|refine svE ⟨?_⟩|refine .b fun b=>?_|refine .u fun u=>?_|refine .d ?_ ?_|(refine .g fun hg=>?_;try exact svx)|fail);refine S.call ?_;refine (c1 _).mono ?_;rintro r h' ⟨rfl,hh⟩;subst hh;(repeat' first|refine svE ⟨?_⟩|refine .b fun b=>?_|refine .u fun u=>?_|refine .d ?_ ?_|(refine .g fun hg=>?_;try exact svx)|fail);refine S.call ?_;refine (c2 _).mono ?_;rintro r h' ⟨rfl,hh⟩;subst hh;(repeat' first|refine svE ⟨?_⟩|refine .b fun b=>?_|refine .u fun u=>?_|refine .d ?_ ?_|(refine .g fun hg=>?_;try exact svx)|fail);refine S.call ?_;refine (s1 _).mono ?_;rintro r h' ⟨rfl,hh⟩;subst hh;(repeat' first|refine svE ⟨?_⟩|refine .b fun b=>?_|refine .u fun u=>?_|refine .d ?_ ?_|(refine .g fun hg=>?_;try exact svx)|fail);refine S.call ?_;refine (s2 _).mono ?_;rintro r h' ⟨rfl,hh⟩;subst hh;(repeat' first|refine svE ⟨?_⟩|refine .b fun b=>?_|refine .u fun u=>?_|refine .d ?_ ?_|(refine .g fun hg=>?_;try exact svx)|fail);refine S.call ?_;refine (g1 _).mono ?_;rintro r h' ⟨rfl,hh⟩;subst hh;(repeat' first|refine svE ⟨?_⟩|refine .b fun b=>?_|refine .u fun u=>?_|refine .d ?_ ?_|(refine .g fun hg=>?_;try exact svx)|fail);refine S.call ?_;refine (g1 _).mono ?_;rintro r h' ⟨rfl,hh⟩;subst hh;(repeat' first|refine svE ⟨?_⟩|refine .b fun b=>?_|refine .u fun u=>?_|refine .d ?_ ?_|(refine .g fun hg=>?_;try exact svx)|fail)
  (repeat' first|refine svE ⟨?_⟩|refine .b fun b=>?_|refine .u fun u=>?_|refine .d ?_ ?_|(refine .g fun hg=>?_;try exact svx)|fail);all_goals cases q;all_goals ((repeat' first|refine svE ⟨?_⟩|refine .b fun b=>?_|refine .u fun u=>?_|refine .d ?_ ?_|(refine .g fun hg=>?_;try exact svx)|fail);refine S.call ?_;refine (tw _).mono ?_;rintro r h' ⟨b7,rfl,hh⟩;subst hh;(repeat' (first|refine svF ⟨?_⟩|refine .b fun b=>?_|refine .u fun u=>?_|refine .d ?_ ?_|(refine .g fun hg=>?_;try exact svx)|refine sva ?_|refine sv3 ?_|fail));refine S.mapU (f:=vBox) (a:=⟨x,y,wd,ht,m,g,_,shp⟩) ?_;generalize putF t id _=t2;refine RL.nil ?_;refine W.frzm (b:=b7) (by (fail_if_success (apply tkG));(repeat (first|exact Tk.here|apply Tk.there));first|done|fail) (by repeat' (first|apply FzT.cons|exact FzT.rest _|exact Fz.hit|apply Fz.aggc|apply Fz.tupc|exact Fz.aggn|exact Fz.tupn|exact Fz.keep _)) (by repeat' (first|apply FzH.box|apply FzH.keep|exact FzH.rest _|exact Fz.hit|apply Fz.aggc|apply Fz.tupc|exact Fz.aggn|exact Fz.tupn|exact Fz.keep _)) ?_;(repeat' first|refine svE ⟨?_⟩|refine .b fun b=>?_|refine .u fun u=>?_|refine .d ?_ ?_|(refine .g fun hg=>?_;try exact svx)|fail);exact fin_r (h':=h) ⟨rfl,rfl⟩)
 ·refine ACalls.intro Tryz.func29 rfl Tryz.ntmps29 Tryz.results29 (Nat.le_of_ble_eq_true rfl) ?_;(repeat' first|refine svE ⟨?_⟩|refine .b fun b=>?_|refine .u fun u=>?_|refine .d ?_ ?_|(refine .g fun hg=>?_;try exact svx)|fail);refine S.call ?_;refine (ic _).mono ?_;rintro r h' ⟨rfl,hh⟩;subst hh;(repeat' first|refine svE ⟨?_⟩|refine .b fun b=>?_|refine .u fun u=>?_|refine .d ?_ ?_|(refine .g fun hg=>?_;try exact svx)|fail);rw[hz];clear hz;generalize (lkF t id).isSome=q;(repeat' first|refine svE ⟨?_⟩|refine .b fun b=>?_|refine .u fun u=>?_|refine .d ?_ ?_|(refine .g fun hg=>?_;try exact svx)|fail);refine S.call ?_;refine (c1 _).mono ?_;rintro r h' ⟨rfl,hh⟩;subst hh;(repeat' first|refine svE ⟨?_⟩|refine .b fun b=>?_|refine .u fun u=>?_|refine .d ?_ ?_|(refine .g fun hg=>?_;try exact svx)|fail);refine S.call ?_;refine (c2 _).mono ?_;rintro r h' ⟨rfl,hh⟩;subst hh;(repeat' first|refine svE ⟨?_⟩|refine .b fun b=>?_|refine .u fun u=>?_|refine .d ?_ ?_|(refine .g fun hg=>?_;try exact svx)|fail);refine S.call ?_;refine (s1 _).mono ?_;rintro r h' ⟨rfl,hh⟩;subst hh;(repeat' first|refine svE ⟨?_⟩|refine .b fun b=>?_|refine .u fun u=>?_|refine .d ?_ ?_|(refine .g fun hg=>?_;try exact svx)|fail);refine S.call ?_;refine (s2 _).mono ?_;rintro r h' ⟨rfl,hh⟩;subst hh;(repeat' first|refine svE ⟨?_⟩|refine .b fun b=>?_|refine .u fun u=>?_|refine .d ?_ ?_|(refine .g fun hg=>?_;try exact svx)|fail);refine S.call ?_;refine (g1 _).mono ?_;rintro r h' ⟨rfl,hh⟩;subst hh;(repeat' first|refine svE ⟨?_⟩|refine .b fun b=>?_|refine .u fun u=>?_|refine .d ?_ ?_|(refine .g fun hg=>?_;try exact svx)|fail);refine S.call ?_;refine (g1 _).mono ?_;rintro r h' ⟨rfl,hh⟩;subst hh;(repeat' first|refine svE ⟨?_⟩|refine .b fun b=>?_|refine .u fun u=>?_|refine .d ?_ ?_|(refine .g fun hg=>?_;try exact svx)|fail)
  rw[hns rfl]
  refine S.call ?_;refine (e1 _).mono ?_;rintro r h' ⟨rfl,hh⟩;subst hh
  (repeat' first|refine svE ⟨?_⟩|refine .b fun b=>?_|refine .u fun u=>?_|refine .d ?_ ?_|(refine .g fun hg=>?_;try exact svx)|fail);all_goals cases q;all_goals ((repeat' first|refine svE ⟨?_⟩|refine .b fun b=>?_|refine .u fun u=>?_|refine .d ?_ ?_|(refine .g fun hg=>?_;try exact svx)|fail);refine S.call ?_;refine (tw _).mono ?_;rintro r h' ⟨b7,rfl,hh⟩;subst hh;(repeat' (first|refine svF ⟨?_⟩|refine .b fun b=>?_|refine .u fun u=>?_|refine .d ?_ ?_|(refine .g fun hg=>?_;try exact svx)|refine sva ?_|refine sv3 ?_|fail));refine S.mapU (f:=vBox) (a:=⟨x,y,wd,ht,m,g,_,[]⟩) ?_;generalize putF t id _=t2;refine RL.nil ?_;refine W.frzm (b:=b7) (by (fail_if_success (apply tkG));(repeat (first|exact Tk.here|apply Tk.there));first|done|fail) (by repeat' (first|apply FzT.cons|exact FzT.rest _|exact Fz.hit|apply Fz.aggc|apply Fz.tupc|exact Fz.aggn|exact Fz.tupn|exact Fz.keep _)) (by repeat' (first|apply FzH.box|apply FzH.keep|exact FzH.rest _|exact Fz.hit|apply Fz.aggc|apply Fz.tupc|exact Fz.aggn|exact Fz.tupn|exact Fz.keep _)) ?_;(repeat' first|refine svE ⟨?_⟩|refine .b fun b=>?_|refine .u fun u=>?_|refine .d ?_ ?_|(refine .g fun hg=>?_;try exact svx)|fail);exact fin_r (h':=h) ⟨rfl,rfl⟩)
 ·refine ACalls.intro Tryz.func29 rfl Tryz.ntmps29 Tryz.results29 (Nat.le_of_ble_eq_true rfl) ?_;(repeat' first|refine svE ⟨?_⟩|refine .b fun b=>?_|refine .u fun u=>?_|refine .d ?_ ?_|(refine .g fun hg=>?_;try exact svx)|fail);refine S.call ?_;refine (ic _).mono ?_;rintro r h' ⟨rfl,hh⟩;subst hh;(repeat' first|refine svE ⟨?_⟩|refine .b fun b=>?_|refine .u fun u=>?_|refine .d ?_ ?_|(refine .g fun hg=>?_;try exact svx)|fail);rw[hz];clear hz;generalize (lkF t id).isSome=q;(repeat' first|refine svE ⟨?_⟩|refine .b fun b=>?_|refine .u fun u=>?_|refine .d ?_ ?_|(refine .g fun hg=>?_;try exact svx)|fail);refine S.call ?_;refine (c1 _).mono ?_;rintro r h' ⟨rfl,hh⟩;subst hh;(repeat' first|refine svE ⟨?_⟩|refine .b fun b=>?_|refine .u fun u=>?_|refine .d ?_ ?_|(refine .g fun hg=>?_;try exact svx)|fail);refine S.call ?_;refine (c2 _).mono ?_;rintro r h' ⟨rfl,hh⟩;subst hh;(repeat' first|refine svE ⟨?_⟩|refine .b fun b=>?_|refine .u fun u=>?_|refine .d ?_ ?_|(refine .g fun hg=>?_;try exact svx)|fail);refine S.call ?_;refine (s1 _).mono ?_;rintro r h' ⟨rfl,hh⟩;subst hh;(repeat' first|refine svE ⟨?_⟩|refine .b fun b=>?_|refine .u fun u=>?_|refine .d ?_ ?_|(refine .g fun hg=>?_;try exact svx)|fail);refine S.call ?_;refine (s2 _).mono ?_;rintro r h' ⟨rfl,hh⟩;subst hh;(repeat' first|refine svE ⟨?_⟩|refine .b fun b=>?_|refine .u fun u=>?_|refine .d ?_ ?_|(refine .g fun hg=>?_;try exact svx)|fail);refine S.call ?_;refine (g1 _).mono ?_;rintro r h' ⟨rfl,hh⟩;subst hh;(repeat' first|refine svE ⟨?_⟩|refine .b fun b=>?_|refine .u fun u=>?_|refine .d ?_ ?_|(refine .g fun hg=>?_;try exact svx)|fail);refine S.call ?_;refine (g1 _).mono ?_;rintro r h' ⟨rfl,hh⟩;subst hh;(repeat' first|refine svE ⟨?_⟩|refine .b fun b=>?_|refine .u fun u=>?_|refine .d ?_ ?_|(refine .g fun hg=>?_;try exact svx)|fail)
  (repeat' first|refine svE ⟨?_⟩|refine .b fun b=>?_|refine .u fun u=>?_|refine .d ?_ ?_|(refine .g fun hg=>?_;try exact svx)|fail);all_goals cases q;all_goals ((repeat' first|refine svE ⟨?_⟩|refine .b fun b=>?_|refine .u fun u=>?_|refine .d ?_ ?_|(refine .g fun hg=>?_;try exact svx)|fail);refine S.call ?_;refine (tw _).mono ?_;rintro r h' ⟨b7,rfl,hh⟩;subst hh;(repeat' (first|refine svF ⟨?_⟩|refine .b fun b=>?_|refine .u fun u=>?_|refine .d ?_ ?_|(refine .g fun hg=>?_;try exact svx)|refine sva ?_|refine sv3 ?_|fail));refine S.mapU (f:=vBox) (a:=⟨x,y,wd,ht,m,g,_,shp⟩) ?_;generalize putF t id _=t2;refine RL.nil ?_;refine W.frzm (b:=b7) (by (fail_if_success (apply tkG));(repeat (first|exact Tk.here|apply Tk.there));first|done|fail) (by repeat' (first|apply FzT.cons|exact FzT.rest _|exact Fz.hit|apply Fz.aggc|apply Fz.tupc|exact Fz.aggn|exact Fz.tupn|exact Fz.keep _)) (by repeat' (first|apply FzH.box|apply FzH.keep|exact FzH.rest _|exact Fz.hit|apply Fz.aggc|apply Fz.tupc|exact Fz.aggn|exact Fz.tupn|exact Fz.keep _)) ?_;(repeat' first|refine svE ⟨?_⟩|refine .b fun b=>?_|refine .u fun u=>?_|refine .d ?_ ?_|(refine .g fun hg=>?_;try exact svx)|fail);exact fin_r (h':=h) ⟨rfl,rfl⟩)
def bxF (t:PW) (w:Int):BW:=(lkF t w).getD ⟨0,0,0,0,false,0,false,[]⟩
def sumX (t:PW):List Int→Int
 | []=>0
 | w::L=>(if w=1 then 0 else (bxF t w).x)+sumX t L
def sumY (t:PW):List Int→Int
 | []=>0
 | w::L=>(if w=1 then 0 else (bxF t w).y)+sumY t L
theorem sumX_snoc (t:PW) (a:Int):∀L,sumX t (L++[a])=sumX t L+if a=1 then 0 else (bxF t a).x
 | []=>by simp[sumX]
 | w::L=>by rw[List.cons_append];unfold sumX;rw[sumX_snoc t a L];omega
theorem sumY_snoc (t:PW) (a:Int):∀L,sumY t (L++[a])=sumY t L+if a=1 then 0 else (bxF t a).y
 | []=>by simp[sumY]
 | w::L=>by rw[List.cons_append];unfold sumY;rw[sumY_snoc t a L];omega
theorem origin_c (k:SVT) (up:UP) (t:PW) (id:Int) (R:List Int) (h:Heap) (hp:Pth up id R) (hR:R.length≤1000)
  (hb:∀w∈id::R,∃b,lkF t w=some b) (hx:∀w b,lkF t w=some b→(-40000≤b.x∧b.x≤40000)∧-40000≤b.y∧b.y≤40000) :
  ACalls Tryz.prog 69 [encP t,encT k up,.val (.int .u32 (id))] h (fun r h'=>r=.tup [.agg [.val (.int .i64 (sumX t (id::R))),.val (.int .i64 (sumY t (id::R)))],.val (.bool (true))]∧h'=h):=by
 have th:=fun h=>thas_c k up id h
 have pa:=fun h=>path_c k up id R h hp (by omega)
 rw[hp.has] at th
 have hL:(id::R).length≤1001:=by simp;omega
 generalize id::R=L at *
 unfold encP encT at *
 refine ACalls.intro Tryz.func69 rfl Tryz.ntmps69 Tryz.results69 (Nat.le_of_ble_eq_true rfl) ?_
 (repeat' first|refine svE ⟨?_⟩|refine .b fun b=>?_|refine .u fun u=>?_|refine .d ?_ ?_|(refine .g fun hg=>?_;try exact svx)|fail)
 refine S.call ?_;refine (th _).mono ?_;rintro r h' ⟨rfl,hh⟩;subst hh
 (repeat' first|refine svE ⟨?_⟩|refine .b fun b=>?_|refine .u fun u=>?_|refine .d ?_ ?_|(refine .g fun hg=>?_;try exact svx)|fail)
 refine S.call ?_;refine (pa _).mono ?_;rintro r h' ⟨rfl,hh⟩;subst hh
 (repeat' first|refine svE ⟨?_⟩|refine .b fun b=>?_|refine .u fun u=>?_|refine .d ?_ ?_|(refine .g fun hg=>?_;try exact svx)|fail)
 rename_i b3 b4 b6
 revert b;intro b8
 refine W.loop (J:=fun z:Nat × Int × Int=>⟨52,[(22,.val (.int .i64 ((z.1:Nat)))),(21,.val (.int .i64 ((L.length:Nat)))),(20,.ro 1 (ints .u32 L)),(8,.val (.pointer (some ⟨b8,0,none⟩))),(7,.val (.bool (false))),(6,.val (.pointer (some ⟨b6,0,none⟩))),(3,.val (.pointer (some ⟨b3,0,none⟩)))],.box b8 [.val (.int .i64 (z.2.1)),.val (.int .i64 (z.2.2))] 122::.box b6 [.val (.int .i64 (0)),.val (.int .i64 (0))] 122::.box b3 [mapV .u32 vBox t] 106::h⟩)
  (Φ:=fun z=>z.1≤L.length∧z.2.1=sumX t (L.take z.1)∧z.2.2=sumY t (L.take z.1)∧(-40000 * (z.1:Int)≤z.2.1∧z.2.1≤40000 * (z.1:Int))∧-40000 * (z.1:Int)≤z.2.2∧z.2.2≤40000 * (z.1:Int)) (μ:=fun z=>L.length - z.1) (0,0,0) lee ⟨Nat.zero_le _,by simp[sumX],by simp[sumY],by simp⟩ ?_
 rintro⟨i,x,y⟩ ⟨hi,ex,ey,hbx,hby⟩
 dsimp only at hi ex ey hbx hby ⊢
 rcases Nat.lt_or_ge i L.length with hlt|hge
 ·obtain⟨a,ha⟩:∃a,L[i]?=some a:=⟨_,List.getElem?_eq_getElem hlt⟩
  obtain⟨b0,hb0⟩:=hb a (List.mem_of_getElem? ha)
  have hxa:=hx a b0 hb0
  have ea:bxF t a=b0:=by unfold bxF;rw[hb0];rfl
  have ht:L.take (i+1)=L.take i++[a]:=by rw[List.take_add_one,ha];rfl
  have sx:=sumX_snoc t a (L.take i)
  have sy:=sumY_snoc t a (L.take i)
  rw[←ht,←ex,ea] at sx
  rw[←ht,←ey,ea] at sy
  clear ht ex ey
  have e:lkV vBox (.agg [.val (.int .i64 (0)),.val (.int .i64 (0)),.val (.int .i64 (0)),.val (.int .i64 (0)),.val (.bool (false)),.val (.int .i64 (0)),.val (.int .i64 (0)),.val (.bool false),.val (.slice none 0 0)]) (lkF t a)=vBox b0:=by rw[hb0];rfl
  (repeat' first|refine svE ⟨?_⟩|refine .b fun b=>?_|refine .u fun u=>?_|refine .d ?_ ?_|(refine .g fun hg=>?_;try exact svx)|fail)
  rw[e,hb0]
  unfold vBox
  clear e hb0 hx
  by_cases h1:a=1
  ·rw[if_pos h1] at sx sy
   (repeat' first|refine svE ⟨?_⟩|refine .b fun b=>?_|refine .u fun u=>?_|refine .d ?_ ?_|(refine .g fun hg=>?_;try exact svx)|fail)
   exact⟨(i+1,x,y),⟨hlt,by dsimp only;omega,by dsimp only;omega,by dsimp only;omega,by dsimp only;omega,by dsimp only;omega⟩,lee,by dsimp only;omega⟩
  ·rw[if_neg h1] at sx sy
   (repeat' first|refine svE ⟨?_⟩|refine .b fun b=>?_|refine .u fun u=>?_|refine .d ?_ ?_|(refine .g fun hg=>?_;try exact svx)|fail)
   refine W.dr (.ro (.rw (.done _))) ?_
   (repeat' first|refine svE ⟨?_⟩|refine .b fun b=>?_|refine .u fun u=>?_|refine .d ?_ ?_|(refine .g fun hg=>?_;try exact svx)|fail);refine R2.congr (todo':=[5,7,8,4,9,10,11,12,13,1,6]) (fun x=>by simp only[List.mem_cons,List.not_mem_nil,or_false];omega) ?_;(repeat' first|refine svE ⟨?_⟩|refine .b fun b=>?_|refine .u fun u=>?_|refine .d ?_ ?_|(refine .g fun hg=>?_;try exact svx)|fail);refine R2.congr (todo':=[1,4,9,10,11,12,13,6]) (fun x=>by simp only[List.mem_cons,List.not_mem_nil,or_false];omega) ?_;refine R2.B2 (j:=6) (l2:=[1,4,9,10,11,12,13]) ?_ ?_ (by repeat (first|apply Sn.nil|apply Sn.cons))
   all_goals first|(refine S.L ?_;refine kd ?_;(repeat' first|refine svE ⟨?_⟩|refine .b fun b=>?_|refine .u fun u=>?_|refine .d ?_ ?_|(refine .g fun hg=>?_;try exact svx)|fail);refine R2.congr (todo':=[6,9,10,11,12,13]) (fun x=>by simp only[List.mem_cons,List.not_mem_nil,or_false];omega) ?_;refine R2.B ?_;refine S.L ?_;refine kd ?_;(repeat' first|refine svE ⟨?_⟩|refine .b fun b=>?_|refine .u fun u=>?_|refine .d ?_ ?_|(refine .g fun hg=>?_;try exact svx)|fail))|(refine S.L ?_;refine kd ?_;refine R2.congr (todo':=[9,1,4,10,11,12,13]) (fun x=>by simp only[List.mem_cons,List.not_mem_nil,or_false];omega) ?_;(repeat' first|refine svE ⟨?_⟩|refine .b fun b=>?_|refine .u fun u=>?_|refine .d ?_ ?_|(refine .g fun hg=>?_;try exact svx)|fail);refine R2.B ?_;refine S.L ?_;refine kd ?_;(repeat' first|refine svE ⟨?_⟩|refine .b fun b=>?_|refine .u fun u=>?_|refine .d ?_ ?_|(refine .g fun hg=>?_;try exact svx)|fail))
   all_goals exact⟨(i+1,x+b0.x,y+b0.y),⟨hlt,by dsimp only;omega,by dsimp only;omega,by dsimp only;omega,by dsimp only;omega,by dsimp only;omega⟩,lee,by dsimp only;omega⟩
 ·rw[List.take_of_length_le hge] at ex ey
  rw[←ex,←ey]
  (repeat' first|refine svE ⟨?_⟩|refine .b fun b=>?_|refine .u fun u=>?_|refine .d ?_ ?_|(refine .g fun hg=>?_;try exact svx)|fail)
  exact fin_r (h':=h) ⟨rfl,rfl⟩
theorem parea_c (t:PW) (id:Int) (b0:BW) (h:Heap) (hb:lkF t id=some b0) (ok:b0.Ok):ACalls Tryz.prog 74 [encP t,.val (.int .u32 (id))] h (fun r h'=>r=regE (areaB b0)∧h'=h):=by
 have okc:(⟨0,0,b0.w,b0.h⟩:RC).ok:=by have:=ok.w;have:=ok.h;constructor<;>(unfold I64;dsimp only;omega)
 have w1:=fun h=>within_c b0.shape ⟨0,0,b0.w,b0.h⟩ h okc ok.jok
 have o1:=fun h=>of_c [⟨0,0,b0.w,b0.h⟩] h (by simp) (fun r hr=>by rw[List.mem_singleton.1 hr];exact okc)
 have er:(⟨0,0,b0.w,b0.h⟩:RC).enc=.agg [.val (.int .i64 (0)),.val (.int .i64 (0)),.val (.int .i64 (b0.w)),.val (.int .i64 (b0.h))]:=rfl
 have eo:List.map RC.enc [⟨0,0,b0.w,b0.h⟩]=[.agg [.val (.int .i64 (0)),.val (.int .i64 (0)),.val (.int .i64 (b0.w)),.val (.int .i64 (b0.h))]]:=rfl
 rw[er] at w1
 rw[eo] at o1
 unfold areaB
 unfold AndJ
 have e:lkV vBox (.agg [.val (.int .i64 (0)),.val (.int .i64 (0)),.val (.int .i64 (0)),.val (.int .i64 (0)),.val (.bool (false)),.val (.int .i64 (0)),.val (.int .i64 (0)),.val (.bool false),.val (.slice none 0 0)]) (lkF t id)=vBox b0:=by rw[hb];rfl
 clear okc er eo ok
 obtain⟨x,y,wd,ht,m,g,sh,shp⟩:=b0
 dsimp only at *
 unfold regE at *
 unfold encP
 cases sh
 ·rw[if_neg (by decide)]
  refine ACalls.intro Tryz.func74 rfl Tryz.ntmps74 Tryz.results74 (Nat.le_of_ble_eq_true rfl) ?_
  (repeat' first|refine svE ⟨?_⟩|refine .b fun b=>?_|refine .u fun u=>?_|refine .d ?_ ?_|(refine .g fun hg=>?_;try exact svx)|fail)
  rw[e,hb]
  unfold vBox
  (repeat' (first|(refine iR2 ?_;refine r2b ?_;refine R2.one ?_)|(refine iS ?_;refine iN ?_;refine S.build1r ?_)|(refine iS ?_;refine iMu ?_;refine S.mapU ?_)|refine svF ⟨?_⟩|refine .b fun b=>?_|refine .u fun u=>?_|refine .d ?_ ?_|(refine .g fun hg=>?_;try exact svx)|refine sva ?_|refine sv3 ?_|fail))
  refine S.call ?_;refine (o1 _).mono ?_;rintro r h' ⟨rfl,hh⟩;subst hh
  (repeat' first|refine svE ⟨?_⟩|refine .b fun b=>?_|refine .u fun u=>?_|refine .d ?_ ?_|(refine .g fun hg=>?_;try exact svx)|fail)
  exact fin_r (h':=h) ⟨rfl,rfl⟩
 ·rw[if_pos rfl]
  refine ACalls.intro Tryz.func74 rfl Tryz.ntmps74 Tryz.results74 (Nat.le_of_ble_eq_true rfl) ?_
  (repeat' first|refine svE ⟨?_⟩|refine .b fun b=>?_|refine .u fun u=>?_|refine .d ?_ ?_|(refine .g fun hg=>?_;try exact svx)|fail)
  rw[e,hb]
  unfold vBox
  (repeat' first|refine svE ⟨?_⟩|refine .b fun b=>?_|refine .u fun u=>?_|refine .d ?_ ?_|(refine .g fun hg=>?_;try exact svx)|fail)
  refine S.call ?_;refine (w1 _).mono ?_;rintro r h' ⟨rfl,hh⟩;subst hh
  (repeat' first|refine svE ⟨?_⟩|refine .b fun b=>?_|refine .u fun u=>?_|refine .d ?_ ?_|(refine .g fun hg=>?_;try exact svx)|fail)
  exact fin_r (h':=h) ⟨rfl,rfl⟩
end Go.Proofs.YtbknacpdcdkjiaaGreat
