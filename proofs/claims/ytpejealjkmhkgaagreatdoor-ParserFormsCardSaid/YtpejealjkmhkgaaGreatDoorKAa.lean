/- Part of the proof. -/
import Derived.Calls
set_option linter.all false
set_option maxHeartbeats 16000000
set_option maxRecDepth 100000
open Nat renaming beq->abK,ble->abL,blt->aet
namespace Go.AM
abbrev cq:Type:=List UInt8
abbrev ql:Type:=FuncId->List Value->Option Value
variable{B:Prop}
theorem om(a:B:=by omega):B:=a
theorem dc(a:B:=by decide):B:=a
theorem sm(a:B:=by simp):B:=a
theorem tv:True:=trivial
theorem Z.{c}{a:Sort c}{b:a}:b=b:=rfl
theorem X6 (h:B:=by
  have XC:(R.tok q2).kind≠0:=fun e=>by rw[e]at h6;cases h6
  rw[if_pos XC]at hd;rcases els with _|⟨d0,dr⟩
  ·obtain rfl:os=[]:=List.eq_nil_of_length_eq_zero Vm;refine eF R q2 _ (bY F5) 0 Z ?_;intro b7;refine a6 Z (a6 ⟨Nat.le_of_ble_eq_true Z,Nat.le_of_ble_eq_true Z⟩ (a7 Z ?_));repeat refine ch ?_
   refine E2 w (p:=q2) ⟨fun p' t q h=>ht.lt p' t q om,fun p' h=>ht.call p' om⟩ (fun p' t q h=>hg p' t q om) (hex.up om) F5 0 ?_ (fun d c q8 e8 hdc=>?_) (fun off er q8 e8=>?_)
   ·exact Z
   ·obtain⟨Rt,lo,up,dty,dex,DY,D1,Ic,wi,Nw,rfl⟩:=hdc;obtain⟨ka,ma,na,aa,fa,rfl⟩:=D1.cZ;obtain⟨kb,mb,nb,ab,fb,rfl⟩:=Ic.cZ;obtain⟨kc,mc,nc,ac,fc,rfl⟩:=wi.cZ;obtain⟨kd,md,nd,xd,ud,td,ld,dd,rfl⟩:=Nw.eight;obtain⟨adu,Z4⟩:=Cg w ht.lt hex.lt om F5 e8;rw[e8]at hd;dsimp only at hd;repeat refine ch ?_
    intro b9;refine cf ?_;refine a6 Z (a6 ⟨Nat.le_of_ble_eq_true Z,Nat.le_of_ble_eq_true Z⟩ (a7 Z ?_));repeat refine ch ?_
    exact⟨(q8,[mR d.k d.n d.exp d.wj d.note Rt [.int .i64 (Int.ofNat ka),.str ma,.str na,aa,fa] [.int .i64 (Int.ofNat kb),.str mb,.str nb,ab,fb] [.int .i64 (Int.ofNat kc),.str mc,.str nc,ac,fc] [.int .i64 (Int.ofNat kd),.str md,.str nd,.str xd,.int .i64 ud,td,ld,dd] d.m d.tg],[(R.tok q2).off]),⟨by show q1<=q8;omega,Z4,by show 1<=q8;omega,Z,f2,ds++[d],by show R.ts.length-q8<=f2;omega,Z5.snoc ⟨_,_,_,_,_,DY,D1,Ic,wi,Nw,Z⟩,hd⟩,by show R.ts.length-q8<R.ts.length-q2;omega,.pick 1 [0,1,2,6,5] ⟨Z,Z,Z,Z,tv⟩ Z Z Z Z Z dc ⟨Z,Z,Z,Z,Z,Z,lj _ 31 (mR d.k d.n d.exp d.wj d.note Rt [.int .i64 (Int.ofNat ka),.str ma,.str na,aa,fa] [.int .i64 (Int.ofNat kb),.str mb,.str nb,ab,fb] [.int .i64 (Int.ofNat kc),.str mc,.str nc,ac,fc] [.int .i64 (Int.ofNat kd),.str md,.str nd,.str xd,.int .i64 ud,td,ld,dd] d.m d.tg),gH _ _ _,lj _ 1 [.int .i64 (Int.ofNat (R.tok q2).off)],gH _ _ _,tv⟩,Z,Z⟩
   ·exact w8 (by simp only[hM,hd,e8,PR.map])
  ·obtain⟨o0,or,rfl⟩:∃a b,os=a::b:=by cases os with
    |nil=>simp at Vm
    |cons a b=>exact⟨a,b,rfl⟩
   have hdr:dr.length+1<=65537:=by simp only[List.length_cons]at Bm;omega
   have hor:(or.map fun n=>([.int .i64 (Int.ofNat n)]:cH)).length+1<=4294967296:=by simp only[List.length_cons,List.length_map]at Vm Bm⊢;omega
   refine eF R q2 _ (bY F5) 0 Z ?_;intro b7;refine a6 Z (a6 ⟨Z,Z,by simp,Nat.le_refl _,rB hor (Nat.le_refl _) (Nat.le_of_ble_eq_true Z)⟩ (a7 Z (a7 (lk _) ?_)));repeat refine ch ?_
   refine E2 w (p:=q2) ⟨fun p' t q h=>ht.lt p' t q om,fun p' h=>ht.call p' om⟩ (fun p' t q h=>hg p' t q om) (hex.up om) F5 0 ?_ (fun d c q8 e8 hdc=>?_) (fun off er q8 e8=>?_)
   ·exact Z
   ·obtain⟨Rt,lo,up,dty,dex,DY,D1,Ic,wi,Nw,rfl⟩:=hdc;obtain⟨ka,ma,na,aa,fa,rfl⟩:=D1.cZ;obtain⟨kb,mb,nb,ab,fb,rfl⟩:=Ic.cZ;obtain⟨kc,mc,nc,ac,fc,rfl⟩:=wi.cZ;obtain⟨kd,md,nd,xd,ud,td,ld,dd,rfl⟩:=Nw.eight;obtain⟨adu,Z4⟩:=Cg w ht.lt hex.lt om F5 e8;rw[e8]at hd;dsimp only at hd;repeat refine ch ?_
    intro b9;refine cf ?_;refine a6 Z (a6 ⟨Z,Z,by simp,Nat.le_refl _,adv hdr (Nat.le_refl _) (Nat.le_of_ble_eq_true Z)⟩ (a7 Z (a7 (lk _) ?_)));repeat refine ch ?_
    exact⟨(q8,(d0::dr)++[mR d.k d.n d.exp d.wj d.note Rt [.int .i64 (Int.ofNat ka),.str ma,.str na,aa,fa] [.int .i64 (Int.ofNat kb),.str mb,.str nb,ab,fb] [.int .i64 (Int.ofNat kc),.str mc,.str nc,ac,fc] [.int .i64 (Int.ofNat kd),.str md,.str nd,.str xd,.int .i64 ud,td,ld,dd] d.m d.tg],(o0::or)++[(R.tok q2).off]),⟨by show q1<=q8;omega,Z4,by show((d0::dr)++[_]).length<=q8;simp only[List.length_append,List.length_cons,List.length_nil]at Bm⊢;omega,by show((o0::or)++[_]).length=((d0::dr)++[_]).length;simp only[List.length_append,List.length_cons,List.length_nil]at Vm⊢;omega,f2,ds++[d],by show R.ts.length-q8<=f2;omega,Z5.snoc ⟨_,_,_,_,_,DY,D1,Ic,wi,Nw,Z⟩,hd⟩,by show R.ts.length-q8<R.ts.length-q2;omega,.pick 1 [0,1,2,6,5] ⟨Z,Z,Z,abG o0 or (R.tok q2).off Z,tv⟩ Z Z Z Z Z dc ⟨Z,Z,Z,Z,Z6 s _ d0 dr (mR d.k d.n d.exp d.wj d.note Rt [.int .i64 (Int.ofNat ka),.str ma,.str na,aa,fa] [.int .i64 (Int.ofNat kb),.str mb,.str nb,ab,fb] [.int .i64 (Int.ofNat kc),.str mc,.str nc,ac,fc] [.int .i64 (Int.ofNat kd),.str md,.str nd,.str xd,.int .i64 ud,td,ld,dd] d.m d.tg) Z,abH s _ _ Z,jQ _ 31 d0 dr (mR d.k d.n d.exp d.wj d.note Rt [.int .i64 (Int.ofNat ka),.str ma,.str na,aa,fa] [.int .i64 (Int.ofNat kb),.str mb,.str nb,ab,fb] [.int .i64 (Int.ofNat kc),.str mc,.str nc,ac,fc] [.int .i64 (Int.ofNat kd),.str md,.str nd,.str xd,.int .i64 ud,td,ld,dd] d.m d.tg),gH _ _ _,Z7 o0 or (R.tok q2).off,gH _ _ _,tv⟩,Z,Z⟩
   ·exact w8 (by simp only[hM,hd,e8,PR.map])):B:=h
theorem Sa (h:B:=by
  repeat refine de ?_
  refine sd (∀p∈x.ps,p.b=cV) Z (fun p hp d hd {σ K} hk=>OR hd (fun b hb=>hk b (fun q=>hb (q p hp)))) hpl h1 (fun bz hbz=>?_);rcases hkd with⟨hk,mS,hex,hm,htg,DY⟩|⟨hk,mS,D1,Ic,hm,htg,DY⟩|⟨hk,DY,D1,Ic,wi,hex,hm,mS,htg⟩
  ·have hb3:decide (Int.ofNat x.k=0)=true:=by rw[hk];rfl
   have hb4:bz=false:=hbz fun p hp=>(DY p hp).1;subst hb4;repeat refine de ?_
   refine sd (∀p∈x.ps,p.vr<=2) Z (fun p hp d hd {σ K} hk=>OS hd (fun b hb=>hk b (fun q=>hb (q p hp)))) hpl h1 (fun bv hbv=>?_);have hb5:bv=false:=hbv fun p hp=>(DY p hp).2;subst hb5;repeat refine de ?_
   refine xU (hex▸h5) ?_;have hb6:decide (x.m=[])=true:=by rw[hm];rfl
   repeat refine de ?_
   exact a8 0 ⟨Z,by rw[htg];rfl⟩
  ·have hb3:decide (Int.ofNat x.k=0)=false:=by rw[hk];rfl
   have hb4:decide (Int.ofNat x.k=1)=true:=by rw[hk];rfl
   repeat refine de ?_
   refine sd (∀p∈x.ps,p.vr=0) Z (fun p hp d hd {σ K} hk=>OT hd (fun b hb=>hk b (fun q=>hb (q p hp)))) hpl h1 (fun bv hbv=>?_);have hb5:bv=false:=hbv fun p hp=>DY p hp;subst hb5;repeat refine de ?_
   refine hz D1 h2 ?_;repeat refine de ?_
   refine hz Ic h3 ?_;have hb6:decide (x.m=[])=true:=by rw[hm];rfl
   repeat refine de ?_
   exact a8 0 ⟨Z,by rw[htg];rfl⟩
  ·have hb3:decide (Int.ofNat x.k=0)=false:=by rw[hk];rfl
   have hb4:decide (Int.ofNat x.k=1)=false:=by rw[hk];rfl
   have hb7:decide (Int.ofNat x.k=2)=true:=by rw[hk];rfl
   have hpn:ps=.ci∨∃b o c,ps=.ps b o 7 c []:=by
    rw[DY]at h1;cases h1 with
    |nil=>exact .inl rfl
    |ps h=>cases h;exact .inr ⟨_,_,_,rfl⟩
   rcases hpn with rfl|⟨b,o,c,rfl⟩;all_goals
    repeat refine de ?_
    refine hz D1 h2 ?_;repeat refine de ?_
    refine hz Ic h3 ?_;repeat refine de ?_
    refine hz wi h4 ?_;repeat refine de ?_
    refine xU (hex▸h5) ?_;exact a8 0 ⟨Z,Z⟩):B:=h
theorem RO (h:B:=by
  have Nx:=Z8;rw[zG,wi]at Nx;rw[zG,wi];repeat' first|(change jR _ _ _;first|refine cg (by with_reducible assumption) ?_|refine a7 (by with_reducible assumption) ?_|refine aZ (fun _=>?_) (fun _=>?_))|refine cC Nx rfl rfl ?_
  all_goals first
   |exact a8 1 ⟨rfl,rfl,congrArg (fun v=>cO.ret (bW v)) (E3 (by clear Z9 Z8 Nx hfi hC Vn hex hsz h8 hw h hl ht hk;simp only[decide_eq_true_eq,decide_eq_false_iff_not,Int.ofNat_eq_natCast]at*;omega)).symm⟩
   |exact cw (dB:=[(2,.bp 1 0)]) (fU:=OU k m n x num ty lb kd s t l f) (.same ⟨rfl,tv⟩ (by rw[zG,wi];rfl)) (hC () (by clear Z9 Z8 Nx hfi hC Vn hex hsz h8 hw h hl ht hk;simp only[decide_eq_true_eq,decide_eq_false_iff_not,Int.ofNat_eq_natCast]at*;omega))):B:=h
theorem X7 (h:B:=by
  have hH2:mN ⟨mp,lY,nL⟩=mT mp [] lY:=by rw[hH,if_neg om]
  refine cm ?_;refine lH mp om ?_;refine a7 (by rw[hp'];rfl) ?_;repeat refine de ?_
  refine abI (fun n hn'=>?_);have hb3:decide (4096<Int.ofNat n)=false:=decide_eq_false (by simp only[Int.ofNat_eq_natCast];omega);repeat refine de ?_
  refine cD (dB:=[(1,.bp 0 0),(27,.d (.ps b o 2 c (lY.map fF))),(28,bW (lY.map fF).length),(29,bW 0)]) ?_;refine cd.iter (fun i:Nat=>[(1,.bp 0 0),(27,.d (.ps b o 2 c (lY.map fF))),(28,bW (lY.map fF).length),(29,bW i)]) (fun _=>_) (fun i=>lY.length-i) (fun i=>i<=lY.length/\mT mp [] lY=mT mp (lY.take i) (lY.drop i)) ?_ 0 ⟨Nat.zero_le _,Z⟩;rintro i ⟨hi,hS⟩;have hml:(lY.map fF).length=lY.length:=List.length_map _;apply aZ<;>intro h
  ·have hi':i<lY.length:=hml▸ee h;have hx:nth (lY.map fF) i=some (fF lY[i]):=by rw[ck,List.getElem?_map,List.getElem?_eq_getElem hi'];rfl
   obtain⟨RB,hx2⟩:=adw lY[i] (List.getElem_mem hi');have hx3:=XD _ RB;rw[List.drop_eq_getElem_cons hi',mT]at hS;refine bZ Z ?_;refine cc _ hx ?_;refine lH lY[i].p om ?_;have hb4:(!fV lY[i].p)=false:=by rw[RB];rfl
   repeat refine de ?_
   refine ic lY[i].a (lZ hx2) ?_;have hb5:(!cK lY[i].a)=false:=by rw[hx2];rfl
   repeat refine de ?_
   apply aZ<;>intro h1
   ·have D2:lY[i].p=mp:=of_decide_eq_true h1;exact a8 0 ⟨Z,by rw[hH2,hS,if_pos D2];rfl⟩
   ·have D2:¬lY[i].p=mp:=of_decide_eq_false h1;rw[if_neg D2]at hS;refine bZ Z ?_;refine a6 ⟨Nat.zero_le _,om,om,om,Z⟩ ?_;refine K4 lY[i] (lY.take i) (by rw[List.map_take];rfl) (by rw[List.length_take];omega) _ _ _ 1 Z ?_;apply aZ<;>intro h2
    ·have Ie:(lY.take i).any (pv lY[i])=true:=h2;rw[if_pos Ie]at hS;exact a8 0 ⟨Z,by rw[hH2,hS];rfl⟩
    ·have Ie:(lY.take i).any (pv lY[i])=false:=h2;rw[if_neg (by rw[Ie];decide),List.take_append_getElem hi']at hS;exact⟨i+1,⟨hi',hS⟩,iK,.eP 0 [0],Z,Z⟩
  ·have hi':lY.length<=i:=hml▸dq h;rw[List.drop_of_length_le hi']at hS;exact a8 0 ⟨Z,by rw[hH2,hS];rfl⟩):B:=h
theorem Ip (a:B:=by
  rcases hf.cS with rfl|⟨b2,o2,abJ,rfl⟩
  ·refine gI Z _ _ ll.nil dc (fun x j hj=>absurd hj (Nat.not_lt_zero _)) ?_;refine iy _ _ ll.nil dc List.Pairwise.nil ?_;exact a8 0 ⟨Z,Z⟩
  ·refine gI Z _ _ (ll.ps .nil) dc (fun x j hj=>absurd hj (Nat.not_lt_zero _)) ?_;refine iy _ _ (ll.ps .nil) dc List.Pairwise.nil ?_;exact a8 0 ⟨Z,Z⟩):B:=a
theorem X8 (h:B:=by
  have Zy:kind≠0->p+1<R.ts.length:=fun h=>w.go p _ K5 h;have xS:kind≠0->eu ⟨kind,text,off⟩ p=p+1:=fun h=>if_neg h;refine cv qm (fun _=>Z) ?_;refine dK R p _ K5 om 0 Z ?_;first|have hq0:p+1<R.ts.length:=Zy om|skip
  first|rw[xS om]|skip
  subst h1;repeat refine cf ?_
  refine cj ?_;refine cc none Z ?_;refine cc none Z ?_;refine cc none Z ?_;refine cc none Z ?_;refine cc none Z ?_;refine cc _ Ik ?_;repeat refine cf ?_
  intro b;refine ep R w [[58,58]] dc (p+1) hq0 _ _ 0 ?_ ?_
  ·exact Z
  cases hn:cu R [[58,58]] (p+1)with
  |bad off e=>
   intro q;refine a8 1 ⟨_,Z,Z,Z,?_⟩;rw[hF];simp only[hO,if_true,if_false,reduceIte,Nat.reduceEqDiff,PR.map,hn];exact⟨q,Z,Z⟩
  |ok _ q1=>
   have hq1:=da w _ _ _ hq0 hn;have hm1:p+1<=q1:=by rw[cL _ _ _ hn];omega
   refine se R q1 2 (R.tok q1) (bY hq1) om 0 ?_ (fun Vg=>?_) (fun Vg=>?_)
   ·exact Z
   ·have hq2:q1+1<R.ts.length:=w.go q1 _ (bY hq1) om;rw[show eu (R.tok q1) q1=q1+1 from if_neg om];repeat refine cf ?_
    refine vx R w (dl R f) (q1+1) hq2 (ht.up om) 0 ?_ (fun l d q e1 hd=>?_) (fun off e q e1=>?_)
    ·exact Z
    ·repeat refine cf ?_
     refine a8 1 ⟨_,Z,Z,Z,?_⟩;rw[hF];simp only[hO,if_true,if_false,reduceIte,Nat.reduceEqDiff,PR.map,hn,Vg,ne_eq,not_true,e1];exact⟨Z,_,.mk hd .nil,Z⟩
    ·refine a8 1 ⟨_,Z,Z,Z,?_⟩;rw[hF];simp only[hO,if_true,if_false,reduceIte,Nat.reduceEqDiff,PR.map,hn,Vg,ne_eq,not_true,e1];exact⟨q,Z,Z⟩
   ·refine a8 1 ⟨_,Z,Z,Z,?_⟩;rw[hF];simp only[hO,if_true,if_false,reduceIte,Nat.reduceEqDiff,PR.map,hn,Vg,ne_eq,not_false_iff];exact⟨_,Z,Z⟩):B:=h
theorem RP (a:B:=by
  refine gI Z _ _ ll.nil dc (fun x j hj=>absurd hj (Nat.not_lt_zero _)) ?_;refine iy _ _ ll.nil dc List.Pairwise.nil ?_;exact a8 0 ⟨Z,Z⟩):B:=a
theorem Sb (h:B:=by
  intro i hi;apply aZ<;>intro hc
  ·have hi':i<fields.length:=K0▸ee hc;have hi0:i-1<fields.length:=om;obtain⟨x,hx,hxn,hxo,vy⟩:=hf.get hi0;obtain⟨y,hy,hyn,hyo,Y5⟩:=hf.get hi';have Vo:=h.srt.px (List.getElem?_eq_getElem hi0) (List.getElem?_eq_getElem hi') om;rw[hxn,hyn]at Vo;have RB:nth zI (i-1)=some (fe x):=by rw[ck];exact hx
   have RC:nth zI i=some (fe y):=by rw[ck];exact hy
   have hwp:=vz (a:=i) om om;repeat first|refine bZ hwp ?_|refine bZ rfl ?_|refine cc _ RB ?_|refine cc _ RC ?_
   repeat refine cf ?_
   refine s7 x.n y.n Vo ?_;repeat refine cf ?_
   refine⟨i+1,by show 1<=i+1;omega,iK,.eS,Z,Z⟩
  ·refine a8 0 ⟨Z,Z⟩):B:=h
theorem NG (a:B:=by
  repeat refine cf ?_
  refine cj ?_;refine cc none Z ?_;refine cc none Z ?_;refine cc none Z ?_;refine cc none Z ?_;refine cc none Z ?_;refine cc _ Ik ?_;repeat refine cf ?_
  refine a8 1 ⟨_,Z,Z,Z,?_⟩;rw[hF];simp only[hO,if_true,if_false,reduceIte,Nat.reduceEqDiff,PR.map];exact⟨Z,_,.mk .nil .nil,Z⟩):B:=a
theorem tI (h:B:=by
  repeat' split at h
  all_goals first|cases h;done|(cases h;exact⟨_,_,rfl⟩)):B:=h
theorem wk (a:B:=by
  refine cd.loop ?_;refine cd.loop ?_;refine cd.loop ?_;refine a8 0 ⟨Z,Z⟩):B:=a
theorem Cl (a:B:=by
  repeat refine ch ?_
  refine gI Z _ _ ll.nil dc (fun x j hj=>absurd hj (Nat.not_lt_zero _)) ?_;exact a8 0 ⟨Z,Z⟩):B:=a
theorem RQ (a:B:=by
  refine cd.loop ?_;refine cd.loop ?_;refine a8 0 ⟨Z,Z⟩):B:=a
theorem oy (a:B:=by
  refine cd.loop ?_;exact a8 0 ⟨Z,Z⟩):B:=a
theorem Sc (a:B:=by
  repeat refine de ?_
  apply aZ<;>intro h15
  ·have hx:=hxx (AJ (b:=15) h15);repeat refine de ?_
   refine eU x (lZ hx) ?_;rw[hx];repeat refine de ?_
   exact cw (dB:=D4) (fU:=[.box (ky k m n x num ty lb kd),.box [bX b0,bX b1,bX b2,bX b3,bX b4,bX b5,bX b6,.d (.int .i64 j),bX b8]]) .eS (hC () trivial)
  ·repeat refine de ?_
   exact cw (dB:=D4) (fU:=[.box (ky k m n x num ty lb kd),.box [bX b0,bX b1,bX b2,bX b3,bX b4,bX b5,bX b6,.d (.int .i64 j),bX b8]]) .eS (hC () trivial)):B:=a
theorem Ya (b:B:=by
  repeat refine de ?_
  refine xV Il (c::r2) om ?_;repeat refine de ?_
  apply aZ<;>intro h5
  ·have h5':(c::r2).all isDigit=false:=sh h5;repeat refine de ?_
   refine a8 0 ⟨Z,Z,_,by rw[hI,h5'];simp;rfl⟩
  ·have h5':(c::r2).all isDigit=true:=zJ h5;repeat refine de ?_
   have hIt:tS (118::c::r2)=true:=by rw[hI,h5',hB,decide_eq_false D2,decide_eq_true Ie];rfl
   rw[hIt];refine cD (dB:=[(0,cn (c::r2)),(5,.d (.int .i64 0)),(39,bW (c::r2).length),(40,bW 0)]) ?_;refine cd.iter (fun a:Nat×Int=>[(0,cn (c::r2)),(5,.d (.int .i64 a.2)),(39,bW (c::r2).length),(40,bW a.1)]) (fun _=>[]) (fun a=>(c::r2).length-a.1) (fun a=>a.1<=(c::r2).length) ?_ (0,0) (Nat.zero_le _);rintro⟨i,x⟩ hi;have hi:i<=(c::r2).length:=hi;apply aZ<;>intro h6
   ·have XC:i<(c::r2).length:=ee h6;refine bZ Z (cc (c::r2)[i] (by rw[ck];exact List.getElem?_eq_getElem XC) ?_);exact⟨(i+1,_),XC,iK,.eS,Z,Z⟩
   ·refine a8 0 ⟨Z,Z,_,Z⟩):B:=b
theorem Sd (h:B:=by
  have Bm:=hf.len;apply aZ<;>intro hc
  ·have h32:=ee (a:=32) hc;rw[Bm]at h32;repeat refine cg hc ?_
   exact a8 0 ⟨Z,by simp[lm,h32,si];rfl⟩
  ·have h32:=dq (a:=32) hc;rw[Bm]at h32;repeat refine a7 hc ?_
   refine gI Z _ _ (ll.ps hf) om (fun x j hj e1 _=>fun hk=>K6 x (by rw[<-e1];exact h.name _ (List.getElem_mem hj)) hk) ?_;refine iy _ _ (ll.ps hf) om h.srt ?_;exact a8 0 ⟨Z,by simp[lm,Nat.not_lt.2 h32,si];rfl⟩):B:=h
theorem Ga (a:B:=by
  repeat refine ch ?_
  refine gI Z _ _ (ll.ps .nil) dc (fun x j hj=>absurd hj (Nat.not_lt_zero _)) ?_;exact a8 0 ⟨Z,Z⟩):B:=a
theorem Yb (h:B:=by
  have Zy:kind≠0->p+1<R.ts.length:=fun h=>w.go p _ K5 h;have xS:kind≠0->eu ⟨kind,text,off⟩ p=p+1:=fun h=>if_neg h;refine cv qm (fun _=>Z) ?_;refine dK R p _ K5 om 0 Z ?_;first|have hq0:p+1<R.ts.length:=Zy om|skip
  first|rw[xS om]|skip
  subst h2;repeat refine cf ?_
  refine cj ?_;refine cc none Z ?_;refine cc none Z ?_;refine cc none Z ?_;refine cc none Z ?_;refine cc none Z ?_;refine cc _ Ik ?_;repeat refine cf ?_
  repeat refine cf ?_
  refine vx R w (dl R f) (p+1) hq0 ht 0 ?_ (fun l d q e1 hd=>?_) (fun off e q e1=>?_)
  ·exact Z
  ·repeat refine cf ?_
   refine a8 1 ⟨_,Z,Z,Z,?_⟩;rw[hF];simp only[hO,if_true,if_false,reduceIte,Nat.reduceEqDiff,PR.map,e1];exact⟨Z,_,.mk hd .nil,Z⟩
  ·refine a8 1 ⟨_,Z,Z,Z,?_⟩;rw[hF];simp only[hO,if_true,if_false,reduceIte,Nat.reduceEqDiff,PR.map,e1];exact⟨q,Z,Z⟩):B:=h
theorem NH (h:B:=by
  induction l generalizing els i with
  |nil=>simp at hi
  |cons a l ih=>
   cases h with
   |cons h1 h2=>
    cases i with
    |zero=>exact⟨_,rfl,h1⟩
    |succ i=>obtain⟨d,a,b⟩:=ih h2 (i:=i) (by simpa using hi);exact⟨d,by simpa using a,b⟩):B:=h
theorem Iu (a:B:=by
  repeat' (first|exact tv|exact rfl|exact Nat.le_of_ble_eq_true rfl|refine bZ rfl ?_|refine cc tT (xW x0 r) ?_|refine a6 (F6 r) ?_|refine And.intro ?_ ?_)):B:=a
theorem Yc (h:B:=by
  have Zy:kind≠0->p+1<R.ts.length:=fun h=>w.go p _ K5 h;have xS:kind≠0->eu ⟨kind,text,off⟩ p=p+1:=fun h=>if_neg h;refine cv qm (fun _=>Z) ?_;refine dK R p _ K5 om 0 Z ?_;first|have hq0:p+1<R.ts.length:=Zy om|skip
  first|rw[xS om]|skip
  skip
  repeat refine cf ?_
  refine cj ?_;refine cc none Z ?_;refine cc none Z ?_;refine cc none Z ?_;refine cc none Z ?_;refine cc none Z ?_;refine cc _ Ik ?_;repeat refine cf ?_
  refine a7 (zK n5) ?_;repeat refine a7 (zK n5) ?_
  repeat first|refine a7 (zK n5) ?_|refine a7 (zK n6) ?_|refine a7 (zK n2) ?_|refine a7 (zK n1) ?_
  refine fK _ off 3 ?_;refine a8 1 ⟨_,Z,Z,Z,?_⟩;rw[hF];simp only[hO,if_true,if_false,reduceIte,Nat.reduceEqDiff,PR.map,n5,n6,n2,n1];exact⟨_,Z,Z⟩):B:=h
theorem Yd (a:B:=by
  refine bZ Z ?_;refine cc (fe x) (by rw[ck];exact hx) ?_;cases acc with
  |nil=>
   intro b3;refine a6 Z (a6 ⟨Nat.le_of_ble_eq_true Z,Nat.le_of_ble_eq_true Z⟩ ?_);refine⟨(j+1,[x.ty]),⟨lU,xX⟩,iK,?_,Z,Z⟩;exact .pick 1 [0,2] ⟨Z,Z,Z,int_eq (cp om),tv⟩ Z Z Z Z Z dc ⟨Z,Z,Z,Z,tv⟩
  |cons e r=>
   intro b3;have hrl:r.length+1<=4294967296:=by simp only[List.length_cons]at hcl;omega
   refine a6 Z (a6 ⟨Z,Z,by simp,Nat.le_refl _,xY hrl⟩ ?_);refine a7 Z (a7 (fG (r.length+1)) ?_);refine⟨(j+1,e::(r++[x.ty])),⟨lU,xX⟩,iK,?_,Z,Z⟩;exact .pick 1 [0,3] ⟨RF 3 r x.ty,Z,Z,int_eq (cp om),tv⟩ Z Z Z Z Z dc ⟨Z,Z,OW e r x.ty,jv _ _ _,tv⟩):B:=a
theorem Ye (h:B:=by
  have Zy:kind≠0->p+1<R.ts.length:=fun h=>w.go p _ K5 h;have xS:kind≠0->eu ⟨kind,text,off⟩ p=p+1:=fun h=>if_neg h;refine cv qm (fun _=>Z) ?_;refine dK R p _ K5 om 0 Z ?_;first|have hq0:p+1<R.ts.length:=Zy om|skip
  first|rw[xS om]|skip
  subst h6;repeat refine cf ?_
  refine cj ?_;refine cc none Z ?_;refine cc none Z ?_;refine cc none Z ?_;refine cc none Z ?_;refine cc none Z ?_;refine cc _ Ik ?_;repeat refine cf ?_
  refine a7 (decide_eq_false hc) ?_;repeat refine a7 (decide_eq_false hc) ?_
  refine a7 (decide_eq_false hv) ?_;repeat refine a7 (decide_eq_false hv) ?_
  refine fK _ off 3 ?_;refine a8 1 ⟨_,Z,Z,Z,?_⟩;rw[hF];simp only[hO,if_true,if_false,reduceIte,Nat.reduceEqDiff,PR.map,hc,hv];exact⟨_,Z,Z⟩):B:=h
theorem Se (a:B:=by
  obtain⟨Rt,lo,up,dty,dex,DY,D1,Ic,wi,Nw,rfl⟩:=hd;obtain⟨k1,m1,n1,a1,f1,rfl⟩:=D1.cZ;obtain⟨k2,m2,n2,a2,f2,rfl⟩:=Ic.cZ;obtain⟨k3,m3,n3,a3,f3,rfl⟩:=wi.cZ;obtain⟨k4,m4,n4,x4,u4,t4,l4,d4,rfl⟩:=Nw.eight;exact RG (d:=d) (by rw[j6,hh];simp only[h7,h8,h9,if_true,if_false,Bool.false_eq_true];exact e4) ⟨Rt,_,_,_,_,DY,D1,Ic,wi,Nw,Z⟩):B:=a
theorem Sf (a:B:=by
  obtain⟨Rt,lo,up,dty,dex,DY,D1,Ic,wi,Nw,rfl⟩:=hd;obtain⟨k1,m1,n1,a1,f1,rfl⟩:=D1.cZ;obtain⟨k2,m2,n2,a2,f2,rfl⟩:=Ic.cZ;obtain⟨k3,m3,n3,a3,f3,rfl⟩:=wi.cZ;obtain⟨k4,m4,n4,x4,u4,t4,l4,d4,rfl⟩:=Nw.eight;exact RG (d:=d) (by rw[j6,hh];simp only[h7,h8,if_true,if_false,Bool.false_eq_true];exact e4) ⟨Rt,_,_,_,_,DY,D1,Ic,wi,Nw,Z⟩):B:=a
theorem Sg (a:B:=by
  obtain⟨Rt,lo,up,dty,dex,DY,D1,Ic,wi,Nw,rfl⟩:=hd;obtain⟨k1,m1,n1,a1,f1,rfl⟩:=D1.cZ;obtain⟨k2,m2,n2,a2,f2,rfl⟩:=Ic.cZ;obtain⟨k3,m3,n3,a3,f3,rfl⟩:=wi.cZ;obtain⟨k4,m4,n4,x4,u4,t4,l4,d4,rfl⟩:=Nw.eight;exact RG (d:=d) (by rw[j6,hh];simp only[h7,if_true];exact e4) ⟨Rt,_,_,_,_,DY,D1,Ic,wi,Nw,Z⟩):B:=a
theorem Bo (a:B:=by
  rw[Op.equalIn,Sem.run_bind,run_underlying hu,Result.andThen_ok];rfl):B:=a
theorem Yf (a:B:=by
  refine E4 F7 s gf om hs ?_;refine bZ Z (bZ Z (a6 ⟨om,hle⟩ ?_));rw[hsl];refine xZ _ htl ?_;apply aZ<;>intro h2
  ·refine gQ ?_ Z;rw[x5,nM,if_pos h2];rfl
  ·refine ic _ htl ?_;apply aZ<;>intro h3
   ·refine gQ ?_ Z;rw[x5,nM,if_neg (by rw[h2];simp),if_pos h3];rfl
   ·refine ie _ htl ?_;apply aZ<;>intro h4
    ·refine gQ ?_ Z;rw[x5,nM,if_neg (by rw[h2];simp),if_neg (by rw[h3];simp),if_pos h4];rfl
    ·refine gQ ?_ Z;rw[x5,nM,if_neg (by rw[h2];simp),if_neg (by rw[h3];simp),if_neg (by rw[h4];simp)];exact⟨0,_,Z⟩):B:=a
theorem Yg (h:B:=by
  intro i hi;apply aZ<;>intro hc
  ·have hi':i<kids.length:=Bm▸ee hc;obtain⟨d,hx,vy⟩:=h.get hi';refine bZ Z ?_;obtain⟨k2,m2,n2,x2,abT,ty2,lb2,kd2,rfl⟩:=vy.eight;refine cc _ (by rw[ck];exact hx) ?_;have abU:kids[i]∈kids:=List.getElem_mem hi';have hle:=j7 abU;refine ih kids[i] _ om (hkg _ abU) vy ?_;refine⟨i+1,hi',iK,.drop 1 ⟨Z,int_eq ?_,int_eq (cp om),tv⟩ Z Z Z Z Z Z Z,Z,Z⟩;have h3:=py kids i;rw[tU hi',<-Nat.add_assoc];exact c4 om
  ·have hi':kids.length<=i:=Bm▸dq hc;rw[List.take_of_length_le hi'];exact a8 0 ⟨Z,Z⟩):B:=h
theorem Yh (a:B:=by
  repeat refine de ?_
  refine ie x.n hln ?_;repeat refine de ?_
  apply aZ<;>intro h3
  ·have F8:dX x.n=true:=h3;repeat refine de ?_
   refine ie x.tg Vo ?_;repeat refine de ?_
   apply aZ<;>intro h4
   ·have Ru:dX x.tg=true:=h4;have hT2:iL x=true:=by rw[hT,F8,Ru];simp
    repeat refine de ?_
    refine jf x.m (.inr hm) ?_;repeat refine de ?_
    exact a8 0 ⟨Z,by rw[hT2];rfl⟩
   ·have Ru:dX x.tg=false:=h4;repeat refine de ?_
    exact a8 0 ⟨Z,by rw[hT,Ru];simp[*];rfl⟩
  ·have F8:dX x.n=false:=h3;repeat refine de ?_
   exact a8 0 ⟨Z,by rw[hT,F8];simp[*];rfl⟩):B:=a
theorem Yi (a:B:=by
  obtain⟨ρ4,v4',w4,K7,hw4,hv4,RH⟩:=ec (fc:=fc) (b:=b) (df:=df) (cs:=cs) (k:=k) (rest:=[]) hT hF hE Vh XE ((A1 _).trans E5) OX (gB.less (t:=((fr.tm).set e vf).set d v) OY (fun i u hu=>by
   simp only[cY,cB]at hu⊢;by_cases hid:i=d<;>by_cases Bp:i=e<;>simp_all))
  rw[XF]at RH;have ht4:=(OY).mono K7;exact⟨ρ4,w4,_,((x6.trans x7).trans zL).trans K7,hw4.alike F9,fin (((x6.trans x7).trans zL).trans K7) (gB.less (t:=((fr.tm).set e vf).set d v) ht4 (fun i u hu=>by
   simp only[cY,cB]at hu⊢;by_cases hid:i=d<;>by_cases Bp:i=e<;>simp_all)),((Ch.trans Ci).trans D5).trans RH⟩):B:=a
theorem RT (a:B:=by
  repeat' (change jR _ _ _;first|refine cg (by with_reducible assumption) ?_|refine a7 (by with_reducible assumption) ?_|refine aZ (fun _=>?_) (fun _=>?_))
  all_goals exact a8 0 ⟨rfl,rfl,_,rfl⟩):B:=a
theorem Yj (a:B:=by
  apply aZ<;>intro hy
  ·obtain⟨w2,c2,z2⟩:=Vr (AJ (b:=0) hy);repeat apply cg hy
   apply Ny E6 X [.int .i64 (Int.ofNat k2),.str m2,.str n2,.str x2,.int .i64 u2,t2,l2,d2] hde w2 om;rw[c2];repeat apply cg hy
   apply E7 _ X [.int .i64 (Int.ofNat k2),.str m2,.str n2,.str x2,.int .i64 u2,t2,l2,d2] z2 (Nat.le_refl _) w2 hde;repeat apply cg hy
   apply cw (dB:=[(9,.bp 0 0),(11,bW e3)]) (fU:=[.box [cn M.p,.d dis,.d dds]]) (.eP 0 [2]) (hC () trivial)
  ·repeat apply a7 hy
   apply cw (dB:=[(9,.bp 0 0),(11,bW e3)]) (fU:=[.box [cn M.p,.d dis,.d dds]]) (.eP 0 [2]) (hC () trivial)):B:=a
theorem Yk (a:B:=by
  obtain⟨ρ4,v4',w4,K7,hw4,hv4,RH⟩:=ec (fc:=fc) (b:=b) (df:=df) (cs:=cs) (k:=k) (rest:=[]) hT hF hE os2 gs2 ((A2 _).trans RI) OX (gB.less (t:=((fr.tm).set d v).set e vf) OY (fun i u hu=>by
   simp only[cY,cB]at hu⊢;by_cases hid:i=d<;>by_cases Bp:i=e<;>simp_all))
  rw[hd2]at RH;have ht4:=(OY).mono K7;exact⟨ρ4,w4,_,((x6.trans x7).trans zL).trans K7,hw4,fin (((x6.trans x7).trans zL).trans K7) (gB.less (t:=((fr.tm).set d v).set e vf) ht4 (fun i u hu=>by
   simp only[cY,cB]at hu⊢;by_cases hid:i=d<;>by_cases Bp:i=e<;>simp_all)),((Ch.trans Ci).trans D5).trans RH⟩):B:=a
theorem Sh (h:B:=by
  have hi':i<fields.length:=K0▸ee hc;obtain⟨x,hx,hxn,hxo,vy⟩:=hf.get hi';have mS:=h.name _ (List.getElem_mem hi');rw[hxn]at mS;refine bZ Z ?_;refine cc (fe x) (by rw[ck];exact hx) ?_;refine eU x.n (lZ mS) ?_;rw[mS];refine⟨i+1,hi',iK,.eS,Z,Z⟩):B:=h
theorem OV (h:B:=by
  split at h
  ·rename_i t q e;obtain⟨rfl,d,hd,rfl⟩:=h;exact k1 t d q e hd
  ·rename_i off er e;obtain⟨q,rfl,rfl⟩:=h;exact k2 off er q e):B:=h
theorem Si (a:B:=by
  refine a8 1 ⟨_,Z,Z,Z,?_⟩;rw[hF];simp only[hO,if_true,if_false,reduceIte,Nat.reduceEqDiff,PR.map,e1];exact⟨q,Z,Z⟩):B:=a
theorem Yl (a:B:=by
  have hk':k<i:=ee hc2;obtain⟨d',hy,hyd⟩:=hE.get (i:=k) om;have hnn:decide (l[k].n=x.n)=false:=decide_eq_false (XG.new _ (List.mem_iff_getElem.2 ⟨k,by rw[List.length_take];omega,by rw[List.getElem_take]⟩));obtain⟨ps',j1,p1,q1,b1,c1,j2,p2,q2,b2,c2,j3,p3,q3,b3,c3,j4,p4,q4,w4,v4,s4,o4,e4,_,_,_,_,_,rfl⟩:=eK hyd;have RC:=(ck els k).trans hy;repeat first|refine bZ rfl ?_|refine cc _ RB ?_|refine cc _ RC ?_|refine de ?_|refine cf ?_
  exact⟨k+1,hk',iK,.eP 0 [0,1],Z,Z⟩):B:=a
theorem Ym (a:B:=by
  by_cases h0:n*te.size=0
  ·have hm0:∀f:Nat->Value,Array.map f (Array.range 0)= #[]:=fun _=>Array.eq_empty_of_size_eq_zero sm;simp only[h0,hm0]at If;simp only[Instr.buildSlice,Sem.run_bind,ed hT ht,hd,Result.andThen_ok,fO hT hte,h0,if_neg (by omega:¬0>2^24),if_true,Sem.run_pure,hm0,If,iz]
  ·simp only[Instr.buildSlice,Sem.run_bind,ed hT ht,hd,Result.andThen_ok,fO hT hte,if_neg (by omega:¬n*te.size>2^24),if_neg h0,hz,Sem.run_pure,If,iz]):B:=a
theorem Yn (a:B:=by
  obtain⟨tk,tm,tn,ta,tf,rfl⟩:=vy.cZ;refine bZ Z ?_;refine cc _ (by rw[ck];exact hx) ?_;intro b3;refine a6 Z (a6 ⟨Z,Z,by simp,Nat.le_refl _,xY (show acc.length<=4294967296 by omega)⟩ ?_);refine a7 Z (a7 (fG acc.length) ?_);refine⟨(j+1,acc++[_]),⟨lU,xX⟩,iK,?_,Z,Z⟩;exact .pick 1 [0,2] ⟨Z,RL 2 acc _,int_eq (cp om),tv⟩ Z Z Z Z Z dc ⟨Z,Z,Nz acc _,jv _ _ _,tv⟩):B:=a
theorem Yo (h:B:=by
  by_cases zG:l1.b=l.b
  ·rcases RM _ _ _ h1 g1 zG with e1|e1
   ·rcases RM _ _ _ h2 g2 (he▸zG)with e2|e2
    ·exact absurd (e1.trans e2.symm) BM
    ·subst e2;cases o1<;>trivial
   ·subst e1;cases o2<;>trivial
  ·have hb1:b≠r:=fun e=>by subst e;rw[hl]at h1;cases h1;exact zG rfl
   have Io:b'≠r:=fun e=>by subst e;rw[hl]at h2;cases h2;exact zG he
   rw[c8,if_neg hb1]at g1;rw[c8,if_neg Io]at g2;exact h.sep _ _ _ _ _ _ h1 h2 he g1 g2 BM):B:=h
theorem Yp (a:B:=by
  refine bZ Z ?_;refine cc (fe x) (by rw[ck];exact hx) ?_;intro b3;refine a6 Z (a6 ⟨Z,Z,by simp,Nat.le_refl _,xY (show acc.length<=4294967296 by omega)⟩ ?_);refine a7 Z (a7 (fG acc.length) ?_);refine⟨(j+1,acc++[x.ty]),⟨lU,xX⟩,iK,?_,Z,Z⟩;exact .pick 1 [0,2] ⟨Z,RL 2 acc x.ty,int_eq (cp om),tv⟩ Z Z Z Z Z dc ⟨Z,Z,Nz acc x.ty,jv _ _ _,tv⟩):B:=a
theorem Sk (a:B:=by
  repeat' (first|exact tv|exact rfl|exact Nat.le_refl _|exact(x8 If om rfl).1|exact(x8 If om rfl).2|(simp only[rows,List.length_map,List.length_cons];omega)|refine bZ rfl ?_|refine And.intro ?_ ?_)):B:=a
theorem Sl (h:B:=by
  intro n;induction n with
  |zero=>intro e k h;cases e<;>exact⟨Nat.zero_le _,h⟩
  |succ n ih=>
   intro e k h;cases e with
   |nil=>exact h.elim
   |cons x r=>
    obtain⟨h1,h2⟩:=ih r _ h;exact⟨Nat.succ_le_succ h1,h2⟩):B:=h
theorem O0 (a:B:=by
  rcases hl.cS with rfl|⟨b1,o1,c1,rfl⟩<;>rcases hk.cS with rfl|⟨b2,o2,c2,rfl⟩<;>exact fitAll):B:=a
theorem Vp (h:B:=by
  rename_i off er e;obtain⟨q,rfl,rfl⟩:=h;exact k2 off er q e):B:=h
theorem Vq (b:B:=by
  repeat first|refine a7 (oJ _) ?_|refine a7 (l0 _) ?_|refine a7 (mV _) ?_
  refine cd.loop ?_;refine zM n ih args a a' om om ha Vs ?_;refine a8 0 ⟨Z,Z⟩):B:=b
theorem Yq (h:B:=by
  obtain⟨m,h1,h2⟩:=cA hk;obtain⟨x,D2,h2⟩:=cA h2;obtain⟨v,ady,h2⟩:=cA h2;obtain⟨h3,h4⟩:=he _ _ h1;obtain⟨F8,Ru⟩:=he _ _ D2;obtain⟨adz,adA⟩:=he _ _ ady;obtain⟨oK,dC,k1,k2,k3,k4⟩:=zN h Ru adA h2;exact .val ⟨_,oK,Φ,ρ,dC,k1,⟨Fz.le_refl _,fun _ _=>Z,om⟩,k3,x9,by simp only[j8,h3,F8,adz];rw[k4];rfl⟩):B:=h
theorem Yr (h:B:=by
  have h':=h.move e2 e3;cases r with
  |ret v=>
   obtain⟨r,g1,g2⟩:=Cj (Φ0:=Φ) (ρ0:=ρ) (m0:=σ.length) e2 e5 h' e4;refine⟨n,r,?_,g2⟩;unfold nT;rw[k3];simp only[e1,eG];rw[(e2.ps h.ps).1]at g1;exact g1
  |eH v=>
   refine⟨n,.eH (erase dk v) fr (c6 dk ps) dC,?_,.eH v du dk oK dC tm df ps fr e5 e2 h' e4 Z⟩;unfold nT;rw[k3];simp only[e1,eG,(e2.ps h.ps).1]):B:=h
theorem D6 (a:B:=by
  exact⟨v,h5,h6,by simp only[j8,h3];exact h7⟩):B:=a
theorem Ys (a:B:=by
  have hH2:mN ⟨mp,lY,nL⟩=mT mp [] lY:=by rw[hH,if_neg om]
  refine cm ?_;refine lH mp om ?_;refine a7 (by rw[hp'];rfl) ?_;repeat refine de ?_
  refine abI (fun n hn'=>?_);have hb3:decide (4096<Int.ofNat n)=false:=decide_eq_false (by simp only[Int.ofNat_eq_natCast];omega);repeat refine de ?_
  refine cd.loop ?_;exact a8 0 ⟨Z,by rw[hH2,hmi];rfl⟩):B:=a
theorem Vt (a:B:=by
  exact .pick 6 [0,1,2,3,4,5,7] ⟨Z,Z,Z,Z,tv⟩ Z Z Z Z Z dc ⟨Z,Z,Z,Z,Z,Z,Z,Z,Gb l _ t _,lp _ _ (iM _),Z,Z,Z,Z,tv⟩):B:=a
theorem Gc (a:B:=by
  refine⟨i+1,hi',iK,.eS,Z,Z⟩):B:=a
theorem O1 (h:B:=by
  repeat' split at h
  all_goals first|cases h;done|(unfold val at h;cases h;exact .inl ⟨_,_,rfl⟩)):B:=h
theorem q5 (h:B:=by
  unfold apart;rw[hg1,hg2];simp only[sg aaa,sg (fun e=>adx e.symm),Bn];cases hfm:st.fm.get fm1 with
  |none=>rfl
  |some ms=>
   simp only[Bool.not_false,Bool.true_and];rw[Bool.not_eq_true'];refine List.any_eq_false.2 fun x hx=>?_;intro e;have e:=Nat.eq_of_beq_eq_true e;subst e;exact(h.real.dP i1 _ _ _ _ _ _ ms _ If hg1 hfm hx (fun e=>aaa e.symm)).2 i2 _ RD Z Z):B:=h
theorem Vu (a:B:=by
  have h9:labels[i].tV=false:=wi.2;repeat refine de ?_
  refine ya 100 cV _ _ dc dc vy (.mk .nil .nil) ?_;repeat refine de ?_
  exact⟨i+1,hi',iK,.eD 2,Z,Z⟩):B:=a
theorem RU (a:B:=by
  refine OZ n ih om om ha Vs (fun b hb=>?_);exact a8 0 ⟨Z,b,fun e=>hb (by cases e;rfl),Z⟩):B:=a
theorem Yt (a:B:=by
  intro K hK;refine oZ Z _ labels hl hlen (fun j hj d hd K hk=>?_) hK;have hvj:=hw.var _ (List.getElem_mem hj);have htj:=hw.ty _ (List.getElem_mem hj);generalize labels[j]=l at hvj htj hd;obtain⟨ln,lv,lt,lo⟩:=l;simp at hvj htj;obtain⟨rfl,rfl⟩:=htj;subst hvj;have hd:eZ cV d:=hd;rcases w9 hd with rfl|⟨b,o,c,rfl⟩;all_goals exact aao):B:=a
theorem Fa (a:B:=by
  refine cm ?_;exact a8 0 ⟨Z,Z⟩):B:=a
theorem D3 (a:B:=by
  exact a8 0 ⟨Z,by rw[hR];rfl⟩):B:=a
theorem Yu (b:B:=by
  exact .pick 6 [0,1,2,3,4,5,8] ⟨Z,Z,Z,Z,tv⟩ Z Z Z Z Z dc ⟨Z,Z,Z,Z,Z,Z,NA 8 r (⟨(R.tok q).text,k,m,n,a,fl,false,[],.ci⟩:FE),Z,Gb l _ t _,lp _ _ (iM _),Z,Z,E8 x0 r (⟨(R.tok q).text,k,m,n,a,fl,false,[],.ci⟩:FE),jv _ _ _,tv⟩):B:=b
theorem RY (a:B:=by
  exact cw (dB:=[(1,.bp 0 0),(3,bX true)]) (fU:=[.box (ky k m nn x num ty lb kd)]) .eS (hC () trivial)):B:=a
theorem RZ (h:B:=by
  induction l generalizing els with
  |nil=>cases h;rfl
  |cons a l ih=>cases h with|cons h1 h2=>simp[ih h2]):B:=h
theorem O2 (h:B:=by
  cases h with
  |nil=>exact .inl rfl
  |ps h=>cases h;exact .inr ⟨_,_,_,rfl⟩):B:=h
theorem Vv (h:B:=by
  revert h1;generalize x.ps=xp;intro h1;cases h1 with
  |nil=>exact⟨0,rfl,.inl ⟨rfl,rfl⟩⟩
  |ps h=>exact⟨_,rfl,.inr ⟨_,_,_,_,rfl,h,h.len⟩⟩):B:=h
theorem Fb (a:B:=by
  exact⟨i+1,hi',iK,.eS,Z,Z⟩):B:=a
theorem Yv (a:B:=by
  obtain⟨ρ3,v3',w3,zL,OX,adB,D5⟩:=ec (fc:=fc) (b:=b) (df:=df) (cs:=cs) (k:=k) (rest:=[]) hT hF hE Vh XE ((A1 _).trans E5) hw2 ht2;rw[XF]at D5;exact⟨ρ3,w3,_,(x6.trans x7).trans zL,OX.alike F9,fin ((x6.trans x7).trans zL) (ht2.mono zL),(Ch.trans Ci).trans D5⟩):B:=a
theorem Vw (a:B:=by
  refine a8 0 ⟨Z,gR fun e=>?_⟩;have:els.length≠wl.length:=fun e=>by rw[e]at hc;simp at hc
  rw[e1,e2,e]at this;exact this Z):B:=a
theorem RE (h:B:=by
  repeat' split at h
  all_goals first|cases h;done|(unfold val at h;cases h)):B:=h
theorem Yw (h:B:=by
  split at h
  ·rename_i l q e;obtain⟨e2,d,hd,rfl⟩:=h;have:cs'=xa R q:=by injection e2 with e3;injection e3
   subst this;exact h1 l d q e hd
  ·rename_i off er e;obtain⟨q,e2,rfl⟩:=h;have:cs'=xa R q:=by injection e2 with e3;injection e3
   subst this;exact h2 off er q e):B:=h
theorem Yx (a:B:=by
  have Io:decide (64<Int.ofNat els.length)=true:=by rw[Bm];exact decide_eq_true (by simp only[Int.ofNat_eq_natCast];omega)
  refine cm ?_;refine lH mp om ?_;refine a7 (by rw[hp'];rfl) ?_;repeat refine de ?_
  exact a8 0 ⟨Z,by rw[hH,if_pos (.inr h64)];rfl⟩):B:=a
theorem Gd (a:B:=by
  repeat refine de ?_
  exact a8 0 ⟨Z,Z⟩):B:=a
theorem Fe (a:B:=by
  simp only[Int.ofNat_eq_natCast];omega):B:=a
theorem Vx (b:B:=by
  have XH:32<fields.length:=K0▸ee (a:=32) hc;repeat refine de ?_
  refine a8 0 ⟨Z,by rw[lm,decide_eq_true XH];rfl⟩):B:=b
theorem Yy (b:B:=by
  rename_i i v ob j o bl a;rw[<-hs.erase hv];refine .obj ho hm (hs.ok hv) (hk.mono hs) (by rw[qn hk hs,hmo,hs.erase hv]) ?_;cases j with
  |some j=>exact⟨Nat.lt_of_lt_of_le hj.1 hs.len,by rw[hs.vA _ hj.1];exact hj.2.1,hj.2.2⟩
  |none=>exact hs.le.Rv _ _ hj):B:=b
theorem R0 (h:B:=by
  cases hb:Φ st.n with
  |none=>rfl
  |some o=>exact absurd (h.flt hb) (Nat.lt_irrefl _)):B:=h
theorem Yz (h:B:=by
  cases Vs with
  |nil=>
   refine cd.loop ?_;exact a8 0 ⟨Z,NB⟩
  |ps h BM=>
   rename_i els;have e1:=h.len;rcases els with _|⟨x0,xr⟩
   ·exact absurd Z BM
   ·exact a8 0 ⟨Z,gR fun e=>by rw[<-e]at e1;simp at e1⟩):B:=h
theorem R2 (a:B:=by
  obtain⟨k,m,n,xx,num,ty,lb,kd,rfl⟩:=hd.eight;refine a8 1 (dQ e hd)):B:=a
theorem YA (a:B:=by
  show db ty R sep fin _ R.ts.length [] p=db ty R sep fin _ f (l++[((R.tok q).text,t,false)]) q3;rw[he,db];simp only[hk,ne_eq,not_true,if_false,zH,h2,Bool.true_and,Bool.and_false,Bool.false_eq_true,hn,e1,h3,Bn]<;>rfl):B:=a
theorem YB (a:B:=by
  refine a7 h2 ?_;apply aZ<;>intro h3
  ·exact cg h3 (cg h3 (eL (by simp only[isWord,h3,Bool.true_or,Bool.or_true]) hk))
  ·exact a7 h3 (a7 h3 (eL (by simp only[isWord,h1,h2,h3,Bool.false_or]) hk))):B:=a
theorem VA (a:B:=by
  unfold gy;rcases hl.cS with rfl|⟨b1,o1,c1,rfl⟩<;>obtain⟨b2,o2,c2,d1,rfl⟩:=hk.one<;>exact fitAll):B:=a
theorem YC (a:B:=by
  refine cd.loop ?_;refine a8 0 ⟨Z,1+L,by show 1+L<=1+lY.length+_;omega,?_⟩;refine congrArg (fun x=>cO.ret (V.d (D.int .i64 x))) ?_;first
   |exact hw1 0 hL0.symm
   |exact hw1 _ (by rw[List.length_map];exact hL.symm)):B:=a
theorem YD (a:B:=by
  rw[ht]at hr;obtain⟨k,t,rfl⟩:=hr;refine iA.intro ?_;have he:=Iq ht;apply aZ<;>intro h9
  ·repeat refine cf ?_
   refine a8 0 ⟨Z,Z,?_⟩;rw[Vy h' hl ht hp];rfl
  ·exact absurd (l3 h9) he):B:=a
theorem YE (a:B:=by
  show db ty R sep fin _ R.ts.length [] p=db ty R sep fin _ f (l++[((R.tok q).text,t,true)]) q3;rw[he,db];simp only[hk,ne_eq,not_true,if_false,zH,h2,Bool.and_self,Bool.true_and,if_true,hn,e1,h3,Bn]<;>rfl):B:=a
theorem YF (a:B:=by
  show db ty R sep fin _ R.ts.length [] p=db ty R sep fin _ f (l++[((R.tok q).text,t,false)]) q3;rw[he,db];simp only[hk,ne_eq,not_true,if_false,zH,Bool.false_and,Bool.false_eq_true,hn,e1,h3,Bn]<;>rfl):B:=a
theorem YG (a:B:=by
  obtain⟨al2,σ3,g1,g2,g3,g4,g5⟩:=s8 q1 q3.real q3.df;rw[acn]at g1 g5;exact⟨_,.ret (.d (.bool false)),_,Φ2,Vz,σ3,red _ (by simp only[ek,g1,g2];rfl),by rw[g4];exact xS,g5,.d (.bool _),g3⟩):B:=a
theorem R4 (a:B:=by
  rw[List.take_of_length_le lU]at rb;exact jw 0 acc.length Z Z rb):B:=a
theorem YH (a:B:=by
  cases hq:gg ops D xb with
  |nil=>rfl
  |cons t l=>
   have:t∈gg ops D xb:=by rw[hq];simp
   rw[nU]at this;obtain⟨j,hj,hd,_⟩:=this;rw[E9 j (hp.lt j (by rw[tW];simp[hj]))]at hd;cases hd):B:=a
theorem YI (a:B:=by
  exact cw (dB:=D4) (fU:=[.box (ky k m n x num ty lb kd),.box [bX b0,bX b1,bX b2,bX b3,bX b4,bX b5,bX b6,.d (.int .i64 j),bX b8]]) (.same ⟨Z,Z,tv⟩ (by rw[h2])) (hC () trivial)):B:=a
theorem Iw (a:B:=by
  exact a8 0 ⟨Z,NB⟩):B:=a
theorem YJ (h:B:=by
  refine cj ?_;apply aZ<;>intro h
  ·exact cg h (cg h (eL (by simp only[iT,h,Bool.true_and]) hk))
  ·exact a7 h (a7 h (eL (by simp only[iT,h,Bool.false_and]) hk))):B:=h
theorem K8 (a:B:=by
  simp only[Int.ofNat_eq_natCast]at this;omega):B:=a
theorem YK (h:B:=by
  rename_i hk;obtain⟨x,hx,rfl⟩:=fH h;obtain⟨a,b,c,d⟩:=ih (p+1) x q om (w.step h2 hk) hx;exact⟨.one (.one (by simp[K9])) a,by rw[op1,gS];simp only[cy,cQ];omega,om,d⟩):B:=h
theorem Ge (a:B:=by
  exact RR acc (RS hp hl) Z):B:=a
theorem YL (h:B:=by
  refine cj ?_;apply aZ<;>intro h
  ·exact cg h (cg h (eL (by simp only[isDigit,h,Bool.true_and]) hk))
  ·exact a7 h (a7 h (eL (by simp only[isDigit,h,Bool.false_and]) hk))):B:=h
theorem YM (h:B:=by
  refine cj ?_;apply aZ<;>intro h
  ·exact cg h (cg h (eL (by simp only[k9,h,Bool.true_and]) hk))
  ·exact a7 h (a7 h (eL (by simp only[k9,h,Bool.false_and]) hk))):B:=h
theorem XI (a:B:=by
  refine a8 0 ⟨Z,?_⟩;exact congrArg cO.ret (congrArg V.d (congrArg (D.int .i64) (cp om)))):B:=a
theorem YN (h:B:=by
  cases h:Nat.beq x.toNat y.toNat with
  |true=>
   have:x=y:=UInt8.toNat_inj.1 (Nat.eq_of_beq_eq_true h);subst this;simp[ih]
  |false=>
   have:x≠y:=fun e=>Nat.ne_of_beq_eq_false h (by rw[e]);simp[this]):B:=h
theorem La (a:B:=by
  show R.ts.length-q3<R.ts.length-q;omega):B:=a
theorem YO (a:B:=by
  unfold Instr.typeAssert;rw[Sem.run_bind,hu,Result.andThen_ok];split<;>first|(rename_i e;exact absurd e (hd _))|(rename_i e _;exact absurd e (hd _))|skip
  all_goals first|rfl|(rename_i e;cases e)|simp_all):B:=a
theorem YP (a:B:=by
  obtain⟨c,h4,h5,h6⟩:=Lb ρ _ ps z _ (qo Φ m h3).1 hp hk;rw[jk ρ h3]at h6;refine⟨_,h4,.agg h5,?_⟩;unfold xc;simp only[hti,hd,h1,h2,h6];simp[val,erase,List.toArray]):B:=a
theorem YQ (a:B:=by
  refine⟨_,_,Φ,_,_,Vg,by rw[hlen];exact la Φ ρ σ.length st.n,r1,.ms (by rw[hlen];omega),?_⟩;simp only[erase,Nat.zero_mul];rw[show jM ρ σ.length st.n σ.length=st.n from if_pos rfl]):B:=a
theorem YR (a:B:=by
  repeat refine ch ?_
  refine gI Z _ _ (ll.ps hf) om (fun x j hj _ e2=>fun hk=>Gf x (by rw[<-e2,ho _ (List.getElem_mem hj)];exact hk)) ?_;exact a8 0 ⟨Z,Z⟩):B:=a
theorem R5 (a:B:=by
  rw[<-gs,<-Ir,<-Ir,Nat.zero_add,Nat.zero_add];rfl):B:=a
theorem XJ (a:B:=by
  exact Ck (by rw[j6,hh];simp only[h7,h8,h9,if_true,if_false,Bool.false_eq_true];exact e4)):B:=a
theorem Im (a:B:=by
  simp only[List.length_cons];omega):B:=a
theorem w5 (a:B:=by
  unfold mU at hB;split at hB
  ·split at hB
   ·dsimp only at hB;split at hB
    ·rename_i es' els hr;rw[ck]at hr;exact⟨_,_,hr⟩
    ·exact hB.elim
   ·exact hB.elim
  ·exact hB.elim):B:=a
theorem YS (a:B:=by
  split at h2
  ·obtain⟨v,h5,h6,h7⟩:=O3 (Φ:=Φ) (m:=σ.length) (ρ:=ρ) _ _ _ _ _ h2;exact⟨v,h5,h6,by simp only[j9,cl,erase,cz,h7];rfl⟩
  ·exact h2.elim):B:=a
theorem XK (a:B:=by
  exact Ck (by rw[j6,hh];simp only[h7,h8,if_true,if_false,Bool.false_eq_true];exact e4)):B:=a
theorem YT (a:B:=by
  repeat' (first|exact tv|exact rfl|exact Nat.le_of_ble_eq_true rfl|refine bZ rfl ?_|refine cc tX (Is e0 r) ?_|refine a6 (RV r) ?_|refine And.intro ?_ ?_)):B:=a
theorem R6 (h:B:=by
  cases h;exact⟨om,fun h=>om,fun h=>om⟩):B:=h
theorem YV {P:Prop} (a:P:=by
  rcases l6 (P:=P) D1 e1 with⟨rfl,rfl,rfl⟩|⟨yl,rfl,hls,hlr⟩
  ·rw[cb _ (Sem.run_pure (P:=P) (w:=w) _)];rfl
  ·simp only;rw[cb _ (hlr _ _ _ h1)];rfl):P:=a
theorem X9 (a:B:=by
  unfold mU at hA;split at hA
  ·split at hA
   ·dsimp only at hA;split at hA
    ·rename_i cs hr;rw[ck]at hr;exact⟨_,hr⟩
    ·exact hA.elim
   ·exact hA.elim
  ·exact hA.elim):B:=a
theorem YW (a:B:=by
  repeat' (first|exact tv|exact rfl|exact Nat.le_of_ble_eq_true rfl|refine bZ rfl ?_|refine cc jz (It x0 xr) ?_|refine a6 (RX xr) ?_|refine And.intro ?_ ?_)):B:=a
theorem YX (h:B:=by
  have Bq:=(lq hgx).resolve_left (by intro e;cases e);have hxb:b≠x:=by intro e';subst e';rw[hg]at Bq;cases Bq
  exact(h.sep _ _ _ _ _ _ hl D7 zG.symm hg Bq hxb).elim):B:=h
theorem YY (c:B:=by
  cases a<;>first|(exfalso;exact h3 _ _ rfl)|(exfalso;exact h4 _ _ _ rfl)|(cases b<;>first|rfl|(exfalso;exact h1 _ _ _ _ ⟨rfl,rfl⟩)|(exfalso;exact h2 _ _ ⟨rfl,rfl⟩))):B:=c
theorem RJ (a:B:=by
  exact⟨i+1,hi',iK,.eP 0 [0],Z,Z⟩):B:=a
theorem NC (h:B:=by
  cases h;exact⟨Nat.le_refl _,hp⟩):B:=h
theorem XL (a:B:=by
  have:decide (Int.ofNat els.length=Int.ofNat wl.length)=true:=zJ hc;exact AJ this):B:=a
theorem YZ (h:B:=by
  rw[List.map_append,List.nodup_append];refine⟨h,by simp,?_⟩;intro a ha b hb e;simp only[List.map_cons,List.map_nil,List.mem_singleton]at hb;subst e;subst hb;exact zH (hX▸ha)):B:=h
theorem Y0 (a:B:=by
  repeat refine a7 h2 ?_
  refine eL ?_ hk;have Ie:¬(c::r).length<=32:=Nat.not_le_of_lt (Iv h2);simp only[cK,decide_eq_false Ie,Bool.and_false,Bool.false_and]):B:=a
theorem Y1 (a:B:=by
  repeat refine a7 h2 ?_
  refine eL ?_ hk;have Ie:¬(c::r).length<=32:=Nat.not_le_of_lt (Iv h2);simp only[dX,decide_eq_false Ie,Bool.and_false,Bool.false_and]):B:=a
theorem Y2 (a:B:=by
  unfold gy;rcases hl.cS with rfl|⟨b1,o1,c1,rfl⟩<;>obtain⟨b2,o2,c2,d1,d2,d3,rfl⟩:=hk.three<;>obtain⟨b3,o3,c3,d0,rfl⟩:=ht.nN<;>exact fitAll):B:=a
theorem Y3 (b:B:=by
  obtain⟨aew,adC,aty,aex,aey,agd⟩:=a;cases adC with
  |indexAddr t x i=>
   simp only[j8]at k3⊢;split at k3
   ·exact VB k3 RW
   ·cases k3
  |_=>cases hia):B:=b
theorem XM (h:B:=by
  cases h with
  |nil=>exact .inl ⟨rfl,rfl⟩
  |ps h=>exact .inr ⟨_,_,_,_,rfl,h⟩):B:=h
theorem ND (b:B:=by
  exact⟨a,om,om,d⟩):B:=b
theorem Y6 (a:B:=by
  intro q3;refine a8 1 ?_;rw[hF];simp only[hk,ne_eq,not_true,if_false,zH,h2,Bool.true_and,Bool.and_false,Bool.false_eq_true,hn,e1,h3,Bn];exact⟨q3,Z,Z⟩):B:=a
theorem RN (a:B:=by
  exact a8 0 ⟨Z,Z,O4 hp⟩):B:=a
theorem R7 (a:B:=by
  repeat refine ch ?_
  exact a8 0 ⟨Z,Z⟩):B:=a
theorem XN (a:B:=by
  exact Ck (by rw[j6,hh];simp only[h7,h8,h9,if_false,Bool.false_eq_true])):B:=a
theorem Y7 (a:B:=by
  intro y hy;rcases List.mem_append.1 hy with hy|hy
  ·exact hv y hy
  ·simp only[List.mem_singleton]at hy;subst hy;first|exact Nat.le_refl _|exact Nat.zero_le _):B:=a
theorem Y8 (h:B:=by
  obtain⟨u1,s1,rfl⟩:=Fc;simp only[execOp,gT];obtain⟨w',e1,e2,rfl,_⟩:=D8 hT hw (he _ _ ha) (he _ _ hb) (he _ _ hc) h;exact Ix e1 e2):B:=h
theorem Y9 (a:B:=by
  intro q3;refine a8 1 ?_;rw[hF];simp only[hk,ne_eq,not_true,if_false,zH,h2,Bool.and_self,Bool.true_and,if_true,hn,e1,h3,Bn];exact⟨q3,Z,Z⟩):B:=a
theorem Za (h:B:=by
  cases j with
  |zero=>
   obtain rfl:i=i':=by simpa using h
   exact⟨o,Z,by rw[<-ck,hσ,fh _ _ hc],lp _ _ hc⟩
  |succ j=>simp at h):B:=h
theorem Zb (a:B:=by
  intro q2;refine a8 1 ?_;rw[hF];simp only[hk,ne_eq,not_true,if_false,zH,h2,Bool.true_and,Bool.and_false,Bool.false_eq_true,hn];exact⟨q2,Z,Z⟩):B:=a
theorem Zd (a:B:=by
  refine a8 0 ⟨Z,n,?_,Z⟩;have lU:nL.length<=j:=Bm▸dq hc;rw[List.take_of_length_le lU]at hnj;show n<=1+lY.length+gL nL;omega):B:=a
theorem Ze (a:B:=by
  rw[iB,decide_eq_false h1,iB,decide_eq_false h2,iB,decide_eq_false h3,iB,decide_eq_false h4,iB,decide_eq_false h5];rfl):B:=a
theorem Zf (a:B:=by
  refine a8 1 ⟨_,Z,Z,Z,?_⟩;rw[hF];simp only[hO,if_true,if_false,reduceIte,Nat.reduceEqDiff,PR.map,e1];exact⟨Z,_,.mk .nil hd,Z⟩):B:=a
theorem Zg (a:B:=by
  show cO.ret (o5 (i+1) b els (.ms (i+1) 5 0 n n))=_;rw[o5,kz];show cO.ret (.d (.ps b (0*5) 5 n ((els.drop 0).take n)))=_;rw[eT _ _ hn]):B:=a
theorem Zh (a:B:=by
  refine a8 1 ?_;rw[hF];simp only[hk,ne_eq,not_true,if_false,zH,h2,Bool.true_and,Bool.and_false,Bool.false_eq_true,hn,e1];exact⟨q1,Z,Z⟩):B:=a
theorem Zi (h:B:=by
  refine step_lone_go ?_;rw[mW ho hw (.inl hd)];have hr:(eg b tm df (.inRegion ops (i::rest)::k)).roundOf=none:=hd;simp[stepG.apply,h,hr,hn]):B:=h
theorem Zj (a:B:=by
  intro q3;refine a8 1 ?_;rw[hF];simp only[hk,ne_eq,not_true,if_false,zH,Bool.false_and,Bool.false_eq_true,hn,e1,h3,Bn];exact⟨q3,Z,Z⟩):B:=a
theorem Zk (a:B:=by
  refine a7 (by rw[R1 Vo];rfl) ?_;refine a7 (by rw[R1 Vo];rfl) ?_;exact⟨i+1,by show 1<=i+1;omega,iK,.eS,Z,Z⟩):B:=a
theorem XO (c:B:=by
  rcases Iy with k|⟨j,o,hj,hl,e⟩
  ·exact k a
  ·exact b j o hj hl e):B:=c
theorem Zl (a:B:=by
  intro q2;refine a8 1 ?_;rw[hF];simp only[hk,ne_eq,not_true,if_false,zH,h2,Bool.and_self,Bool.true_and,if_true,hn];exact⟨q2,Z,Z⟩):B:=a
theorem Zm (b:B:=by
  have XH:8<args.length:=hal▸ee (a:=8) hc;repeat refine de ?_
  refine a8 0 ⟨Z,by rw[lm,decide_eq_true XH,Bool.or_true];rfl⟩):B:=b
theorem Zn (h:B:=by
  rename_i gT;rw[gT]at h3 hm;cases h1;cases h3;first
   |exact h.R3 hm.1 hm.2
   |exact .bp (by rw[hlen];omega)
   |(simp only[erase,Gg];rfl)):B:=h
theorem Zo (h:B:=by
  split at h
  ·rename_i u hu;unfold val at h;cases h;simp only[execOp,gT];exact⟨ρ,_,w,.inl Z,Ren.le_refl _,hw,he _ _ hu⟩
  ·cases h):B:=h
theorem Zp (b:B:=by
  repeat refine a7 h1 ?_
  refine eL ?_ hk;have D2:s=[]:=List.eq_nil_of_length_eq_zero (by have:=Iv (a:=1) h1;omega);subst D2;rfl):B:=b
theorem XP (a:B:=by
  simp only[List.length_cons,List.length_nil]at e1;exact⟨om,e2⟩):B:=a
theorem Zq (h:B:=by
  rw[Gh _ zG];rw[c8]at Vi;split at Vi
  ·rename_i e;subst e;rw[hl]at hb;cases hb;exact absurd rfl zG
  ·exact h.obj _ _ _ hb Vi):B:=h
theorem NE (a:B:=by
  exact cC h0 Z Z hk):B:=a
theorem Zr (h:B:=by
  intro s h;rw[List.getElem?_append_right om,show a+s-A.length=s from om,List.getElem?_append_left h,List.getElem?_eq_getElem h]):B:=h
theorem Zs (a:B:=by
  refine a8 1 ?_;rw[hF];simp only[hk,ne_eq,not_true,if_false,zH,h2,Bool.and_self,Bool.true_and,if_true,hn,e1];exact⟨q1,Z,Z⟩):B:=a
theorem XQ (h:B:=by
  repeat' split at h
  all_goals first|cases h;done|exact key h (.inl rfl)):B:=h
theorem Zt (h:B:=by
  split at h
  ·obtain⟨rfl,d,h2,rfl⟩:=h;exact⟨_,Z,Z,Z,h'⟩
  ·obtain⟨q,rfl,rfl⟩:=h;exact⟨_,Z,Z,Z,h'⟩):B:=h
theorem Zu (h:B:=by
  obtain⟨dk,w',VC,Rw,cs',h4,h5,h6,h7,h8⟩:=h;exact⟨dk,w',VC,Rw,cs',hle.trans h4,h5,h6,DY.trans h7,.of_steps xS h8⟩):B:=h
theorem Zv (a:B:=by
  refine eL ?_ hk;have h4:(c::r).all isWord=true:=h4;simp only[cK,decide_eq_true Ie,h3,h4,List.head?_cons,Option.any_some];simp):B:=a
theorem XR (a:B:=by
  exact BN (by simp only[Ff,fj,cu,h4,if_true,e4,PR.map])):B:=a
theorem Zw (a:B:=by
  intro q2;refine a8 1 ?_;rw[hF];simp only[hk,ne_eq,not_true,if_false,zH,Bool.false_and,Bool.false_eq_true,hn];exact⟨q2,Z,Z⟩):B:=a
theorem Zx (a:B:=by
  rw[List.take_add_one,hgi];simp only[List.all_append,hp,Option.toList,List.all_cons,List.all_nil,Bool.and_true,Bool.true_and];simpa using h2):B:=a
theorem XS (a:B:=by
  simp only[List.append_assoc]<;>first|exact rfl|exact⟨rfl,rfl⟩):B:=a
theorem aab (h:B:=by
  subst h;exact cU.drop 1 Z (by show(fW 1 (dp R q)&&mJ 1 tl 0)=true;rw[mJ];rfl) Z (cU.now Z ⟨_,Z,Z,Z,q,Z,Z⟩)):B:=h
theorem aac (h:B:=by
  cases h with|ps h=>cases h with|cons _ h=>cases h with|cons _ h=>cases h with|cons _ h=>cases h;exact⟨_,_,_,_,_,_,rfl⟩):B:=h
theorem XT (a:B:=by
  exact xe hi.frame.tm (by rw[<-yb Lc];exact hwa)):B:=a
theorem aad (a:B:=by
  rw[VD fun i hi=>Nat.lt_of_lt_of_le (hcs i hi) h3,show Nat.blt 0 fU.length=true by rw[Nat.blt_eq];exact Nat.lt_of_lt_of_le h0 h3];rfl):B:=a
theorem aae (a:B:=by
  rcases hl.inv with⟨h1,h2⟩|⟨b,o,c,els,h1,h2⟩
  ·exact .inl ⟨h2,by rw[h1];rfl⟩
  ·exact .inr ⟨b,o,c,els,h1,h2.len⟩):B:=a
theorem aaf (a:B:=by
  have h1:=RD.length;have h2:=Gi hf;have h3:=(NF te.zero n).1;simp only[Array.length_toList]at h1;rw[<-h1,h2,h3,hzl]):B:=a
theorem XU (a:B:=by
  simp only[Int.ofNat_eq_natCast];rw[wrap64 om om];omega):B:=a
theorem aag (a:B:=by
  refine cd.loop ?_;refine cU.drop 7 ?_ ?_ ?_ ?_
  ·exact Z
  ·exact nP Z Rx Io hL
  ·exact Z
  exact cU.now Z ⟨Z,Z⟩):B:=a
theorem aah (a:B:=by
  refine a8 1 ?_;rw[hF];simp only[hk,ne_eq,not_true,if_false,zH,Bool.false_and,Bool.false_eq_true,hn,e1];exact⟨q1,Z,Z⟩):B:=a
theorem aai (h:B:=by
  cases h with
  |cons h1 h2=>
   cases i with
   |zero=>exact .cons hd h2
   |succ i=>exact .cons h1 (ih h2 (i:=i) (by simpa using hi) hd)):B:=h
theorem XV (h:B:=by
  rw[List.take_add_one,List.getElem?_eq_getElem h,List.map_append];rfl):B:=h
theorem aaj (h:B:=by
  rw[hdr]at h;have hE:isWord s[gf+et isDigit (s.drop gf)]=false:=hE;simp only[List.head?_cons,Option.any_some,hE]at h;cases h):B:=h
theorem aak (a:B:=by
  intro y hy;rcases List.mem_append.1 hy with hy|hy
  ·exact hv y hy
  ·simp only[List.mem_singleton]at hy;subst hy;exact Nat.le_refl _):B:=a
theorem aal (h:B:=by
  split at h
  ·cases h
  ·rename_i hb;have hb':b≠0:=by rw[vB]at hb;simpa using hb
   cases h;simp[binOp,Op.intDiv,hb']):B:=h
theorem XW (a:B:=by
  exact a8 0 ⟨Z,gR fun e=>by rw[e]at e1;simp at e1⟩):B:=a
theorem aam (h:B:=by
  induction l generalizing els with
  |nil=>cases h;exact .cons hp .nil
  |cons a l ih=>cases h with|cons h1 h2=>exact .cons h1 (ih h2)):B:=h
theorem aan (h:B:=by
  obtain⟨a,b⟩:=h.dP j es els c e f p ms x (BM j _ hj rfl) hg hm hx hn;exact⟨a,fun k ok hk Ld=>b k ok (BM k _ hk Ld) Ld⟩):B:=h
theorem aap (a:B:=by
  have Ie:bb=false:=sh h2;refine a8 0 ⟨Z,gR fun e=>?_⟩;have:=hb (by subst e;rfl);rw[Ie]at this;cases this):B:=a
theorem R8 (a:B:=by
  refine a8 0 ⟨Z,Z,Le hp⟩):B:=a
theorem R9 (a:B:=by
  refine a8 0 ⟨Z,Z,Lf hp⟩):B:=a
theorem aaq (a:B:=by
  refine⟨n,x,fr',VC,Rw,ps',dC,du,dk,oK,e1,?_,e3,e4,e5,e6,e7,e8⟩;exact(O5.weaken hf.2).then e2 (Nat.le_refl _)):B:=a
theorem aar (a:B:=by
  rw[hF];simp only[hk,ne_eq,not_true,if_false,zH,h2,Bool.true_and,Bool.and_false,Bool.false_eq_true,hn,e1,h3,if_true,PR.map]):B:=a
theorem aas (h:B:=by
  refine⟨(h.obj i _ hi Z).2,fun j o hj hl e=>?_⟩;obtain⟨h1,h2⟩:=rC hi hj hl;exact h1 (h.inj j i o _ h2 hi hl Z e)):B:=h
theorem aat (a:B:=by
  unfold IntKind.wrap;simp only[IntKind.signed,IntKind.bits];first
   |(show(if _ then _ else _)=_;split<;>omega)
   |(simp;omega)):B:=a
theorem abM (h:B:=by
  induction l generalizing els with
  |nil=>cases h;rfl
  |cons a l ih=>cases h with|cons _ h2=>simp only[List.length_cons,ih h2]):B:=h
theorem XX (a:B:=by
  exact Ck (by rw[j6,hh];simp only[h7,if_true];exact e4)):B:=a
theorem abN (a:B:=by
  obtain⟨r,h3,h4⟩:=O6 (ρ:=ρ) hk;exact⟨_,h3,.d (.bool _),shape _ (by simp only[h4];rfl) (by rw[h4];simp)⟩):B:=a
theorem abO (h:B:=by
  rename_i hn;obtain⟨a,e,_⟩:=dv h;obtain⟨c,d⟩:=ih (p+1) a q om (w.step h2 hn) e;exact⟨om,d⟩):B:=h
theorem XY (h:B:=by
  cases h;exact⟨om,w.go p _ (bY h2) om⟩):B:=h
theorem abP (a:B:=by
  unfold gy;rcases hl.cS with rfl|⟨b1,o1,c1,rfl⟩<;>obtain⟨b2,o2,c2,d1,d2,rfl⟩:=hk.two<;>exact fitAll):B:=a
theorem abQ (h:B:=by
  cases hr;cases hx<;>simp only[nO,Option.some.injEq]at h<;>first|cases h;done|(subst h;exact⟨rfl,.int _ _⟩)):B:=h
theorem XZ (h:B:=by
  rcases List.mem_cons.1 hx with rfl|h
  ·simp
  ·simp[ih _ x h]):B:=h
theorem abR (h:B:=by
  induction l generalizing els with
  |nil=>cases h;exact h'
  |cons a l ih=>cases h with|cons h1 h2=>exact .cons h1 (ih h2)):B:=h
theorem X0 (a:B:=by
  exact k2 _ _ _ _ (by rw[xS,e2];rfl) (by show 4<=5;omega)):B:=a
theorem abS (b:B:=by
  have h8:=ee (a:=8) hc;rw[hal]at h8;repeat refine cg hc ?_
  exact a8 0 ⟨Z,by simp[lm,h8,si];rfl⟩):B:=b
theorem abV (h:B:=by
  rename_i gT;rw[gT]at h3 hm;cases h1;cases h3;exact⟨h.R3 hm.1 hm.2,.bp om,by simp only[erase,Gg];rfl⟩):B:=h
theorem abW (a:B:=by
  induction s with
  |nil=>exact Nat.le_refl _
  |cons c r ih=>
   rw[countB];split<;>simp only[List.length_cons]<;>omega):B:=a
theorem X1 (a:B:=by
  refine O7 (hex▸h5) ?_;exact a8 0 ⟨Z,Z⟩):B:=a
theorem abX (a:B:=by
  rw[hF];simp only[hk,ne_eq,not_true,if_false,zH,h2,Bool.and_self,Bool.true_and,if_true,hn,e1,h3,if_true,PR.map]):B:=a
theorem abY (h:B:=by
  cases b<;>first|(simp[nV]at h;done)|skip
  rename_i x';obtain⟨x'⟩:=x';simp only[nV]at h;rw[yc x x' h]):B:=h
theorem abZ (a:B:=by
  exact⟨Vz,w2,tm2,Rw,cs',h4.trans acw,hw2,hf2,h7,(Steps.head NI (h8.trans hs2)).trans (.one re)⟩):B:=a
theorem ab0 (a:B:=by
  refine cg h3 ?_;refine eL ?_ hk;simp only[dX,decide_eq_true Ie,h3,List.head?_cons,Option.any_some];simp):B:=a
theorem ab1 (a:B:=by
  show ey ty R R.ts.length [] (p+1)=ey ty R f (l++[t]) (q1+1);rw[he,ey,e1];simp only[h2,if_true]):B:=a
theorem ab2 (b:B:=by
  exact congrArg (fun x=>some (cN.row 7 x)) (Cm x0 r (⟨(R.tok q).text,k,m,n,a,fl,false,[],.ci⟩:FE))):B:=b
theorem X2 (a:B:=by
  exact⟨v,h5,h6,by simp only[j8,h3,F8];exact h7⟩):B:=a
theorem ab3 (a:B:=by
  rw[h1,List.map_map];congr 2;exact List.map_congr_left fun e _=>by simp only[Function.comp,ke,O8,jH]):B:=a
theorem ab4 (a:B:=by
  rw[hF];simp only[hk,ne_eq,not_true,if_false,zH,Bool.false_and,Bool.false_eq_true,hn,e1,h3,if_true,PR.map]):B:=a
theorem ab5 (h:B:=by
  rw[if_neg e2]at hk;rw[hs.vA k (hold k ok hk),hs.vA j (hold j oj hj)]at e;exact h.inj j k oj ok hj hk hlj Ld e):B:=h
theorem ab6 (h:B:=by
  cases h with|ps h=>cases h with|cons _ h=>cases h with|cons _ h=>cases h;exact⟨_,_,_,_,_,rfl⟩):B:=h
theorem X3 (a:B:=by
  simp only[yd,mX,Nat.beq_refl,Bool.and_self]):B:=a
theorem ab7 (h:B:=by
  cases h with
  |nil=>exact⟨[],.nil,.inl ⟨rfl,rfl⟩⟩
  |ps h=>exact⟨_,h,.inr ⟨_,_,_,rfl⟩⟩):B:=h
theorem ab8 (a:B:=by
  simp only[erase]at q4 w4 q4' w4';simp only[hap,q4,q4',Y4,mY,Nat.beq_refl,Bool.and_self,w4,w4']):B:=a
theorem ab9 (a:B:=by
  cases hi with
  |nil=>exact⟨0,rfl,.inl ⟨rfl,rfl⟩⟩
  |ps=>exact⟨_,rfl,.inr ⟨_,_,_,rfl⟩⟩):B:=a
theorem aca (a:B:=by
  refine a8 1 ?_;rw[hF];simp only[hk,ne_eq,not_false_iff,if_true];exact⟨eu (R.tok q) q,Z,Z⟩):B:=a
theorem acb (a:B:=by
  repeat refine a7 h4 ?_
  refine eL ?_ hk;have h4:(c::r).all isWord=false:=h4;simp[cK,h4]):B:=a
theorem acd (h:B:=by
  cases b<;>first|(simp[nV]at h;done)|skip
  rename_i q;cases q<;>first|rfl|(simp[nV]at h;done)):B:=h
theorem ace (a:B:=by
  refine a8 1 ?_;rw[hF];simp only[hk,ne_eq,not_true,if_false,zH,if_true];exact⟨q+1,Z,Z⟩):B:=a
theorem acf (b:B:=by
  exact congrArg (fun x=>some (cN.row 5 x)) (Sj e0 r [.int .i64 (Int.ofNat k),.str m,.str n,a,fl])):B:=b
theorem acg (a:B:=by
  rw[List.take_add_one,List.getElem?_eq_getElem lU,List.map_append,<-List.append_assoc];exact hA.snoc Zc):B:=a
theorem YU (h:B:=by
  have hx:=h.real.ox If rfl hg1 hg2 (fun e=>aaa e.symm) (.inr ⟨i2,_,RD,rfl,rfl⟩);exact hx e):B:=h
theorem X4 (a:B:=by
  rename_i e;cases hx;rw[e];exact⟨rfl,tv⟩):B:=a
theorem X5 (a:B:=by
  rw[fh π _ (iM _),List.map_append];rfl):B:=a
theorem ach (a:B:=by
  rcases Nat.lt_or_ge i cx.length with hh|hh
  ·exact hh
  ·rw[List.getElem?_eq_none hh]at hi';cases hi'):B:=a
theorem aci (a:B:=by
  refine gQ (fe ⟨3,_,Z⟩ ?_) Z;rw[x5,mZ,if_pos (.inr (.inr (by rw[hdr];exact hE)))]):B:=a
theorem acj (a:B:=by
  by_cases hp:p<R.ts.length
  ·exact hp
  ·rw[Rd.tok,List.getElem?_eq_none om]at hk;cases hk):B:=a
theorem ack (h:B:=by
  cases m with
  |zero=>rfl
  |succ m=>
   cases k' with
   |zero=>omega
   |succ k'=>simp[hP]at h):B:=h
theorem acm (h:B:=by
  refine eL ?_ hk
  symm
  rw[List.all_eq_false];exact⟨s[i],List.getElem_mem h,by simpa using h2⟩):B:=h
theorem aco (a:B:=by
  repeat refine a7 h3 ?_
  refine eL ?_ hk;have h3:iT c=false:=h3;simp[dX,h3]):B:=a
theorem acp (a:B:=by
  simp only[List.flatten_append,List.flatten_cons,List.flatten_nil,List.append_nil,List.append_assoc]):B:=a
theorem acq (a:B:=by
  repeat refine a7 h1 ?_
  refine eL ?_ hk;have D2:s=[]:=by simpa using h1
  subst D2;rfl):B:=a
theorem acr (a:B:=by
  exact cg h2 (cg h2 (eL (by simp only[isWord,h2,Bool.true_or,Bool.or_true]) hk))):B:=a
theorem acs (a:B:=by
  repeat refine a7 h3 ?_
  refine eL ?_ hk;have h3:k9 c=false:=h3;simp[cK,h3]):B:=a
theorem acu (h:B:=by
  rw[c8]at hb;split at hb
  ·rename_i e;subst e;exact h.wf.lt _ _ hg
  ·exact h.wf.lt _ _ hb):B:=h
theorem acv (h:B:=by
  rcases Nat.lt_or_ge i ops.size with h|h
  ·exact h
  ·rw[Array.getElem?_eq_none h]at ho;cases ho):B:=h
theorem aeC (a:B:=by
  rcases Nat.lt_or_ge j i with g|g
  ·exact hno j hj g
  ·obtain rfl:j=i:=om;exact hb):B:=a
theorem aeD (h:B:=by
  split at h
  ·split at h
   ·split at h
    ·cases h;rfl
    ·cases h
   ·cases h
  ·cases h):B:=h
theorem aeE (c:B:=by
  show ext fg [.string ⟨⟨a⟩⟩,.string ⟨⟨b⟩⟩]=_;rfl):B:=c
theorem aeF (h:B:=by
  all_goals (exfalso;first|(rename_i gT;rw[gT]at hm;simp[gh]at hm;done)|cases h)):B:=h
theorem aeG (a:B:=by
  rw[hx];refine⟨b,cap,?_⟩;rw[e1];dsimp only;rw[if_neg om];exact⟨_,hd,Z⟩):B:=a
theorem aeH (a:B:=by
  rw[List.drop_zero,List.take_of_length_le sm,List.set_append_right _ _ sm];simp):B:=a
theorem aeI (h:B:=by
  split at h
  ·exact vC hdf htm h
  ·cases h;exact⟨_,rfl,rfl,rfl,rfl⟩
  ·cases h):B:=h
theorem aeJ (h:B:=by
  have h':=ee (a:=65536) h;refine a8 0 ⟨Z,Z,?_⟩;rw[jl,if_pos h'];rfl):B:=h
theorem aeK (h:B:=by
  simp only[isDigit,Bool.and_eq_true,decide_eq_true_eq,Int.ofNat_eq_natCast]at h;omega):B:=h
theorem aeL (a:B:=by
  exact cg h1 (cg h1 (eL (by simp only[isWord,h1,Bool.true_or]) hk))):B:=a
inductive Tr (α:Type)where
 |nil
 |node (v:Option α) (l r:Tr α)
def hP:Nat->Nat->List Bool
 |0,_=>[]
 |k+1,a=>match a with
  |0=>[]
  |m+1=>(abK (m%2) 0)::hP k (m/2)
def path(n:Nat):List Bool:=hP n n
def iN{a:Type}:List Bool->Tr a->Option a
 |_,.nil=>none
 |[],.node e _ _=>e
 |b::c,.node _ f d=>match b with
  |true=>iN c f
  |false=>iN c d
def l7{a:Type}(o:Option a):List Bool->Tr a->Tr a
 |[],.nil=>.node o .nil .nil
 |[],.node _ e d=>.node o e d
 |b::c,.nil=>match b with
  |true=>.node none (l7 o c .nil) .nil
  |false=>.node none .nil (l7 o c .nil)
 |b::c,.node f e d=>match b with
  |true=>.node f (l7 o c e) d
  |false=>.node f e (l7 o c d)
def Tr.get{a:Type}(t:Tr a)(n:Nat):Option a:=iN (path n) t
def Tr.put{a:Type}(t:Tr a)(n:Nat)(o:Option a):Tr a:=l7 o (path n) t
def Tr.set{a:Type}(t:Tr a)(n:Nat)(b:a):Tr a:=t.put n (some b)
def eE{a:Type}:Nat->List a->Tr a->Tr a
 |_,[],b=>b
 |i,c::d,b=>eE (i+1) d (b.set i c)
structure Fg where
 state:LoopState
 pending:Option Code
 fn:FuncId
 tm:Tr Value
 nt:Nat
 params:List Tmp
 assign:Code
 body:Code
 defers:Nat
inductive fX where
 |cells (c:List Value) (es dP fo:Nat)
 |map (entries:List MapEntry) (clock:Nat)
 |loop (l:Fg)
 |eI (taken:Bool)
 |iter (s:ByteArray) (pos:Nat)
 |dead
structure St where
 hp:Tr fX
 n:Nat
 fm:Tr (List Nat)
structure Fr where
 tm:Tr Value
 df:List Deferred
structure FC where
 fn:FuncId
 nt:Nat
 round:Option Nat
 DZ:Bool
inductive dW where
 |none
 |gg (v:Value)
 |rD
inductive Ex where
 |norm
 |exit (id:Nat)
 |ret
 |panic (v:Value)
inductive CR where
 |ret (v:Value)
 |eH (v:Value)
inductive AR where
 |val (v:Value) (st:St)
 |eH (v:Value) (st:St)
 |enter (f:FuncId) (args:List Value)
 |yield (l:Nat) (args:List Value)
 |recover
 |defer (d:Deferred)
structure TI where
 desc:TypeDesc
 size:Nat
 agg:Bool
 zero:List Value
 bytes:Nat
structure FI where
 nt:Nat
 body:Code
 VE:List ResultVar
structure dR where
 P:Program
 tt:Tr TI
 ff:Tr FI
 ext:ql
def dW.isNone:dW->Bool|.none=>true|_=>false
def St.new(st:St)(o:fX):St:={st with hp:=st.hp.set st.n o,n:=st.n+1}
def St.put(st:St)(b:Nat)(o:fX):St:={st with hp:=st.hp.set b o}
def St.get(st:St)(b:Nat):Option fX:=st.hp.get b
def overlaps(fo b lo a:Nat):Bool:=aet fo a&&aet lo (fo+b)
def eh(b lo c:Nat):List Nat->Tr fX->Tr fX×List Nat
 |[],a=>(a,[])
 |m::d,a=>
  match abK m b with
  |true=>let e:=eh b lo c d a;(e.1,m::e.2)
  |false=>
   match a.get m with
   |some (.cells g _ _ f)=>
    match overlaps f g.length lo c with
    |true=>eh b lo c d (a.set m .dead)
    |false=>let e:=eh b lo c d a;(e.1,m::e.2)
   |_=>let e:=eh b lo c d a;(e.1,m::e.2)
def St.kill(st:St)(dP b lo c:Nat):St:=
 match st.fm.get dP with
 |none=>st
 |some a=>let d:=eh b lo c a st.hp;{st with hp:=d.1,fm:=st.fm.set dP d.2}
def dw:List Value->Nat->List Value->List Value
 |c,_,[]=>c
 |[],_,_::_=>[]
 |x::c,d,b::a=>match d with
  |0=>b::dw c 0 a
  |m+1=>x::dw c m (b::a)
def gq(st:St)(b o n:Nat):Option (List Value):=
 match st.get b with
 |some (.cells a _ _ _)=>match abL (o+n) a.length with
  |true=>some ((a.drop o).take n)
  |false=>none
 |_=>none
def fM:Value->Bool
 |.agg _|.tuple _=>false
 |_=>true
def fY(st:St)(b o:Nat)(a:List Value):Option St:=
 match st.get b with
 |some (.cells f e c d)=>match abL (o+a.length) f.length&&a.all fM with
  |true=>some ((st.put b (.cells (dw f o a) e c d)).kill c b (d+o) (d+o+a.length))
  |false=>none
 |_=>none
def newRow(st:St)(es:Nat)(c:List Value):Nat×St:=(st.n,st.new (.cells c es st.n 0))
def Iz(a:Bool)(c:List Value):Option Value:=
 match a with
 |true=>some (.agg c.toArray)
 |false=>match c with
  |[b]=>some b
  |_=>none
def cellsOf:Value->List Value
 |.agg a=>a.toList
 |v=>[v]
def l8:cq->cq->Bool
 |[],[]=>true
 |a::c,d::b=>match abK a.toNat d.toNat with
  |true=>l8 c b
  |false=>false
 |_,_=>false
def cE:cq->cq->Bool
 |_,[]=>false
 |[],_::_=>true
 |a::d,b::c=>match aet a.toNat b.toNat with
  |true=>true
  |false=>match abK a.toNat b.toNat with
   |true=>cE d c
   |false=>false
def pz(a b:ByteArray):Bool:=l8 a.data.toList b.data.toList
def Fh(a b:ByteArray):Bool:=cE a.data.toList b.data.toList
def Lg(a b:ByteArray):ByteArray:=⟨⟨a.data.toList++b.data.toList⟩⟩
def Lh(s:ByteArray)(l a:Nat):ByteArray:=⟨⟨(s.data.toList.take a).drop l⟩⟩
def qp:Int->Int->Bool
 |.ofNat a,.ofNat b=>abK a b
 |.negSucc a,.negSucc b=>abK a b
 |_,_=>false
def tY:IntKind->IntKind->Bool
 |.i8,.i8|.i16,.i16|.i32,.i32|.i64,.i64|.u8,.u8|.u16,.u16|.u32,.u32|.u64,.u64=>true
 |_,_=>false
def addrEq(a b:Addr):Bool:=abK a.block b.block&&abK a.off b.off&&(match a.spot,b.spot with|none,none=>true|_,_=>false)
def Sm:Fn->Fn->Bool
 |.func b,.func a=>abK b a
 |.yield b,.yield a=>abK b a
 |_,_=>false
mutual
def nV:Value->Value->Bool
 |.bool a,.bool b=>a==b
 |.int k a,.int k' b=>tY k k'&&qp a b
 |.string a,.string b=>pz a b
 |.pointer none,.pointer none=>true
 |.pointer (some a),.pointer (some b)=>addrEq a b
 |.slice none l c,.slice none l' c'=>abK l l'&&abK c c'
 |.slice (some a) l c,.slice (some b) l' c'=>addrEq a b&&abK l l'&&abK c c'
 |.map none,.map none=>true
 |.map (some a),.map (some b)=>abK a b
 |.func f ⟨a⟩ ⟨b⟩,.func f' ⟨a'⟩ ⟨b'⟩=>Sm f f'&&zO a a'&&zO b b'
 |.nilFunc,.nilFunc=>true
 |.nilIface,.nilIface=>true
 |.iface t v,.iface t' v'=>abK t t'&&nV v v'
 |.agg ⟨a⟩,.agg ⟨b⟩=>zO a b
 |.tuple ⟨a⟩,.tuple ⟨b⟩=>zO a b
 |_,_=>false
def zO:List Value->List Value->Bool
 |[],[]=>true
 |a::x,b::y=>nV a b&&zO x y
 |_,_=>false
end
def nth{a:Type}:List a->Nat->Option a
 |[],_=>none
 |x::b,c=>match c with
  |0=>some x
  |m+1=>nth b m
def tZ:Int->Int->Bool
 |.ofNat a,.ofNat b=>aet a b
 |.negSucc a,.negSucc b=>aet b a
 |.negSucc _,.ofNat _=>true
 |.ofNat _,.negSucc _=>false
def wo(a:List Value):Nat->List Value
 |0=>[]
 |n+1=>a++wo a n
def qq(a:Nat->Option (Nat×Nat)):List Value->List (Nat×Value)->Option (List Value)
 |cells,[]=>some cells
 |cells,(f,e)::d=>
  match a f with
  |none=>none
  |some (c,b)=>
   match abK (cellsOf e).length b&&abL (c+b) cells.length with
   |true=>qq a (dw cells c (cellsOf e)) d
   |false=>none
def l9(a:Operand->Option Value):List (Nat×Operand)->Option (List (Nat×Value))
 |[]=>some []
 |(d,b)::c=>match a b,l9 a c with
  |some e,some f=>some ((d,e)::f)
  |_,_=>none
def nf(a:Operand->Option Value):List Operand->Option (List Value)
 |[]=>some []
 |x::c=>match a x,nf a c with
  |some b,some d=>some (b::d)
  |_,_=>none
def val(a:Value)(st:St):Option AR:=some (.val a st)
def ptr(b o:Nat):Value:=.pointer (some ⟨b,o,none⟩)
def lr:Value:=.tuple #[]
def xf(C:dR)(t:TypeId)(st:St):Option AR:=
 match C.tt.get t with
 |some a=>val (ptr st.n 0) (st.new (.cells a.zero a.size st.n 0))
 |none=>none
def Li(a:Value)(st:St):Option AR:=
 match(cellsOf a).all fM with
 |true=>val (ptr st.n 0) (st.new (.cells (cellsOf a) (cellsOf a).length st.n 0))
 |false=>none
def gJ(C:dR)(a:Array Field)(d:Nat):Option (Nat×Nat):=
 match nth a.toList d with
 |some c=>match C.tt.get c.type with
  |some b=>some (c.offset,b.size)
  |none=>none
 |none=>none
def xc(C:dR)(t:TypeId)(d:List (Nat×Value))(st:St):Option AR:=
 match C.tt.get t with
 |some b=>
  match b.desc with
  |.struct a=>
   match(a.toList.all fun g=>(C.tt.get g.type).isSome),b.agg,qq (gJ C a) b.zero d with
   |true,true,some f=>val (.agg f.toArray) st
   |_,_,_=>none
  |.array _ c=>
   match C.tt.get c,b.agg with
   |some e,true=>match qq (fun h=>some (h*e.size,e.size)) b.zero d with
    |some f=>val (.agg f.toArray) st
    |none=>none
   |_,_=>none
  |_=>none
 |none=>none
def kf(C:dR)(t:TypeId)(len:Nat)(d:List (Nat×Value))(st:St):Option AR:=
 match C.tt.get t with
 |some c=>
  match c.desc with
  |.slice b=>
   match C.tt.get b with
   |some a=>
    match aet 0 a.size&&abL (len*a.size) 16777216&&abK a.zero.length a.size,qq (fun f=>some (f*a.size,a.size)) (wo a.zero len) d with
    |true,some e=>match e.all fM with
     |true=>val (.slice (some ⟨st.n,0,none⟩) len len) (st.new (.cells e a.size st.n 0))
     |false=>none
    |_,_=>none
   |none=>none
  |_=>none
 |none=>none
def ye(C:dR)(t:TypeId)(d:Value)(st:St):Option AR:=
 match C.tt.get t,d with
 |some a,.pointer (some ⟨b,f,none⟩)=>
  match a.agg||abK a.size 1,gq st b f a.size with
  |true,some c=>match Iz a.agg c with
   |some e=>val e st
   |none=>none
  |_,_=>none
 |_,_=>none
def iC(C:dR)(t:TypeId)(e c:Value)(st:St):Option AR:=
 match C.tt.get t,e with
 |some b,.pointer (some ⟨d,f,none⟩)=>
  match abK (cellsOf c).length b.size with
  |true=>match fY st d f (cellsOf c)with
   |some a=>val lr a
   |none=>none
  |false=>none
 |_,_=>none
def ng(a:Value)(st:St):Option AR:=
 match a with
 |.pointer (some _)=>val a st
 |.iface _ _=>val a st
 |.func (.func _) _ _=>val a st
 |.func (.yield _) _ _=>val a st
 |_=>none
def jm:TypeDesc->Value->Value->Option Bool
 |.bool,.bool a,.bool b=>some (a==b)
 |.int _,.int d a,.int c b=>match tY d c with
  |true=>some (qp a b)
  |false=>none
 |.string,.string a,.string b=>some (pz a b)
 |_,_,_=>none
def ua(C:dR)(xs b:List Value):List Field->Option Bool
 |[]=>some true
 |f::c=>match f.name== "_" with
  |true=>none
  |false=>match C.tt.get f.type,nth xs f.offset,nth b f.offset with
   |some a,some e,some d=>match a.agg with
    |true=>none
    |false=>match jm a.desc e d with
     |some true=>ua C xs b c
     |some false=>some false
     |none=>none
   |_,_,_=>none
def kA:Operand->Bool
 |.const _=>true
 |_=>false
def O9(C:dR)(t:TypeId)(o n:Operand)(j b:Value):Option Bool:=
 match C.tt.get t with
 |none=>none
 |some e=>
  match e.desc,j,b with
  |.pointer _,.pointer none,.pointer c=>some c.isNone
  |.pointer _,.pointer _,.pointer none=>some false
  |.pointer q,.pointer (some p),.pointer (some c)=>
   match C.tt.get q,p,c with
   |some f,⟨l,g,none⟩,⟨m,k,none⟩=>match aet 0 f.size&&abK l m with
    |true=>some (abK g k)
    |false=>none
   |_,_,_=>none
  |.interface _,.nilIface,.nilIface=>match kA o||kA n with
   |true=>some true
   |false=>none
  |.interface _,.nilIface,.iface _ _=>some false
  |.interface _,.iface _ _,.nilIface=>some false
  |.struct a,.agg i,.agg h=>match e.bytes with
   |_=>match C.P.eqGuardType C.P.depth t||C.P.stoodInHeld t with
    |true=>none
    |false=>ua C i.toList h.toList a.toList
  |.slice _,.slice none _ _,.slice c _ _=>some c.isNone
  |.slice _,.slice _ _ _,.slice none _ _=>some false
  |.map _ _,.map none,.map c=>some c.isNone
  |.map _ _,.map _,.map none=>some false
  |.func _ _ _,.nilFunc,.nilFunc=>some true
  |.func _ _ _,.nilFunc,.func _ _ _=>some false
  |.func _ _ _,.func _ _ _,.nilFunc=>some false
  |d,j,b=>jm d j b
def ub(d:BinOp)(a:IntKind)(c b:Int):Option Value:=
 match d with
 |.add=>some (.int a (a.wrap (c+b)))
 |.sub=>some (.int a (a.wrap (c-b)))
 |.mul=>some (.int a (a.wrap (c*b)))
 |.quo=>match qp b 0 with|true=>none|false=>some (.int a (a.wrap (c.tdiv b)))
 |.rem=>match qp b 0 with|true=>none|false=>some (.int a (c.tmod b))
 |.and=>some (.int a (a.wrap (BitVec.ofInt a.bits c&&&BitVec.ofInt a.bits b).toNat))
 |.or=>some (.int a (a.wrap (BitVec.ofInt a.bits c|||BitVec.ofInt a.bits b).toNat))
 |.xor=>some (.int a (a.wrap (BitVec.ofInt a.bits c^^^BitVec.ofInt a.bits b).toNat))
 |.andNot=>some (.int a (a.wrap (BitVec.ofInt a.bits c&&& ~~~ BitVec.ofInt a.bits b).toNat))
 |.eql=>some (.bool (qp c b))
 |.neq=>some (.bool (!(qp c b)))
 |.lss=>some (.bool (tZ c b))
 |.leq=>some (.bool (!(tZ b c)))
 |.gtr=>some (.bool (tZ b c))
 |.geq=>some (.bool (!(tZ c b)))
 |_=>none
def uc(c:BinOp)(a:IntKind)(d:Int)(b:Int):Option Value:=
 match b with
 |.ofNat e=>match c with
  |.shl=>some (.int a (a.wrap (d*2^(min e a.bits))))
  |.shr=>some (.int a (d.fdiv (2^(min e a.bits))))
  |_=>none
 |_=>none
def BO:BinOp->Bool
 |.shl=>true
 |.shr=>true
 |_=>false
def xg(c:BinOp)(a b:ByteArray):Option Value:=
 match c with
 |.add=>match abL (a.data.toList.length+b.data.toList.length) 1099511627776 with
  |true=>some (.string (Lg a b))
  |false=>none
 |.eql=>some (.bool (pz a b))
 |.neq=>some (.bool (!(pz a b)))
 |.lss=>some (.bool (Fh a b))
 |.leq=>some (.bool (Fh a b||pz a b))
 |.gtr=>some (.bool (!(Fh a b||pz a b)))
 |.geq=>some (.bool (!(Fh a b)))
 |_=>none
def Gj(C:dR)(c:BinOp)(t:TypeId)(i h:Operand)(a b:Value):Option Value:=
 match a,b with
 |.int f e,.int g d=>match BO c with
  |true=>uc c f e d
  |false=>match tY f g with
   |true=>ub c f e d
   |false=>none
 |.string e,.string d=>xg c e d
 |a,b=>match c with
  |.eql=>(O9 C t i h a b).map .bool
  |.neq=>(O9 C t i h a b).map fun j=>.bool (!j)
  |_=>none
def aUn(b:UnOp)(d:Value):Option Value:=
 match b,d with
 |.neg,.int a c=>some (.int a (a.wrap (0-c)))
 |.xor,.int a c=>some (.int a (a.wrap (BitVec.ofInt a.bits (if a.signed then-1 else a.max)^^^BitVec.ofInt a.bits c).toNat))
 |.not,.bool e=>some (.bool (!e))
 |_,_=>none
def toByte:Value->Option UInt8
 |.int .u8 (.ofNat a)=>some (UInt8.ofNat a)
 |_=>none
def sj:List Value->Option cq
 |[]=>some []
 |v::c=>match toByte v,sj c with
  |some b,some a=>some (b::a)
  |_,_=>none
def ofBytes(l:cq):List Value:=l.map fun a=>.int .u8 a.toNat
def ig(C:dR)(src b:TypeId)(h:Value)(st:St):Option AR:=
 match C.tt.get src,C.tt.get b with
 |some f,some d=>
  match f.desc,d.desc,h with
  |.int _,.int i,.int _ j=>val (.int i (i.wrap j)) st
  |.string,.string,.string _=>val h st
  |.string,.slice g,.string e=>
   match C.tt.get g with
   |some a=>match a.desc with
    |.int .u8=>val (.slice (some ⟨st.n,0,none⟩) e.data.toList.length e.data.toList.length) (st.new (.cells (ofBytes e.data.toList) 1 st.n 0))
    |_=>none
   |none=>none
  |.slice g,.string,.slice m c _=>
   match C.tt.get g with
   |some a=>match a.desc with
    |.int .u8=>match m with
     |none=>val (.string ⟨#[]⟩) st
     |some ⟨k,n,none⟩=>match gq st k n c with
      |some l=>match sj l with
       |some o=>val (.string ⟨o.toArray⟩) st
       |none=>none
      |none=>none
     |_=>none
    |_=>none
   |none=>none
  |_,_,_=>none
 |_,_=>none
def gU(C:dR)(t:TypeId)(b:Value)(st:St):Option AR:=
 match C.tt.get t with
 |some a=>match a.desc with
  |.interface _=>none
  |_=>val (.iface t b) st
 |none=>none
def aau:Fn->Bool
 |.func _=>true
 |_=>false
def jn(C:dR)(t:TypeId)(l c:Value)(st:St):Option AR:=
 match C.tt.get t,l,c with
 |some d,.int .i64 (.ofNat l),.int .i64 (.ofNat c)=>
  match d.desc with
  |.slice b=>match C.tt.get b with
   |some a=>match abL l c&&aet 0 a.size&&abL (c*a.bytes) 1099511627776&&abL c 1099511627776&&abK a.zero.length a.size with
    |true=>val (.slice (some ⟨st.n,0,none⟩) l c) (st.new (.cells (wo a.zero c) a.size st.n 0))
    |false=>none
   |none=>none
  |_=>none
 |_,_,_=>none
def lu:Option Value->Nat->Option Nat
 |none,a=>some a
 |some (.int _ (.ofNat b)),_=>some b
 |_,_=>none
def Pa(st:St)(b:Nat):Option Nat:=
 match st.get b with
 |some (.cells _ a _ _)=>some a
 |_=>none
def pA(C:dR)(t:TypeId)(q:Value)(lo g f:Option Value)(st:St):Option AR:=
 match C.tt.get t with
 |none=>none
 |some n=>
  match n.desc,q with
  |.string,.string o=>
   match lu lo 0,lu g o.data.toList.length,f with
   |some d,some e,none=>match abL d e&&abL e o.data.toList.length with
    |true=>val (.string (Lh o d e)) st
    |false=>none
   |_,_,_=>none
  |.slice a,.slice p j b=>
   match C.tt.get a,lu lo 0,lu g j,lu f b with
   |some c,some d,some e,some m=>
    match abL d e&&abL e m&&abL m b&&(g.isSome||f.isNone)with
    |false=>none
    |true=>
     match p with
     |none=>match abK b 0 with
      |true=>val (.slice none 0 0) st
      |false=>none
     |some ⟨i,l,none⟩=>
      match abK b 0 with
      |true=>val (.slice p 0 0) st
      |false=>match Pa st i with
       |some h=>match abK h c.size with
        |true=>val (.slice (some ⟨i,l+d*c.size,none⟩) (e-d) (m-d)) st
        |false=>none
       |none=>none
     |_=>none
   |_,_,_,_=>none
  |.array k a,.pointer (some ⟨i,l,none⟩)=>
   match C.tt.get a,lu lo 0,lu g k,f with
   |some c,some d,some e,none=>match abL d e&&abL e k&&(match st.get i with|some (.cells r h _ _)=>abK h c.size&&abL (l+k*c.size) r.length|_=>false)with
    |true=>val (.slice (some ⟨i,l+d*c.size,none⟩) (e-d) (k-d)) st
    |false=>none
   |_,_,_,_=>none
  |_,_=>none
def fI(C:dR)(s:TypeId)(e:Value)(f:Nat)(st:St):Option AR:=
 match C.tt.get s,e with
 |some d,.pointer (some ⟨g,h,none⟩)=>
  match d.desc with
  |.struct a=>match gJ C a f with
   |some (c,b)=>match aet 0 b with
    |true=>val (ptr g (h+c)) st
    |false=>none
   |none=>none
  |_=>none
 |_,_=>none
def Cn(C:dR)(t:TypeId)(c:List Value)(a:Nat):Option Value:=
 match C.tt.get t with
 |some b=>match b.agg with
  |true=>match abL (a+b.size) c.length with
   |true=>some (.agg ((c.drop a).take b.size).toArray)
   |false=>none
  |false=>nth c a
 |none=>none
def xh(C:dR)(t:TypeId)(e:Value)(f:Nat)(st:St):Option AR:=
 match C.tt.get t,e with
 |some c,.agg d=>
  match c.desc with
  |.struct a=>match nth a.toList f with
   |some b=>match Cn C b.type d.toList b.offset with
    |some g=>val g st
    |none=>none
   |none=>none
  |_=>none
 |_,_=>none
def gv(C:dR)(t:TypeId)(h i:Value)(st:St):Option AR:=
 match C.tt.get t,h,i with
 |some c,.slice (some ⟨f,g,none⟩) b _,.int _ (.ofNat e)=>
  match c.desc with
  |.slice a=>match C.tt.get a with
   |some d=>match aet e b with
    |true=>val (ptr f (g+e*d.size)) st
    |false=>none
   |none=>none
  |_=>none
 |some c,.pointer (some ⟨f,g,none⟩),.int _ (.ofNat e)=>
  match c.desc with
  |.array b a=>match C.tt.get a with
   |some d=>match aet e b with
    |true=>val (ptr f (g+e*d.size)) st
    |false=>none
   |none=>none
  |_=>none
 |_,_,_=>none
def ue(C:dR)(t:TypeId)(g j:Value)(st:St):Option AR:=
 match C.tt.get t,g,j with
 |some b,.string h,.int _ (.ofNat d)=>
  match b.desc with
  |.string=>match nth h.data.toList d with
   |some i=>val (.int .u8 i.toNat) st
   |none=>none
  |_=>none
 |some b,.agg f,.int _ (.ofNat d)=>
  match b.desc with
  |.array c a=>match C.tt.get a with
   |some e=>match aet d c with
    |true=>match Cn C a f.toList (d*e.size)with
     |some k=>val k st
     |none=>none
    |false=>none
   |none=>none
  |_=>none
 |_,_,_=>none
def rE(a:TypeDesc)(b:Value):List MapEntry->Nat->Option (Option (Nat×Value))
 |[],_=>some none
 |e::d,c=>match jm a b e.key with
  |some true=>some (some (c,e.val))
  |some false=>rE a b d (c+1)
  |none=>none
def rF:TypeDesc->Bool
 |.string=>true
 |.int _=>true
 |.bool=>true
 |_=>false
def qs(C:dR)(t:TypeId)(j l:Value)(a:Bool)(st:St):Option AR:=
 match C.tt.get t with
 |none=>none
 |some e=>
  match e.desc with
  |.map f g=>
   match C.tt.get f,C.tt.get g with
   |some d,some c=>
    match rF d.desc with
    |false=>none
    |true=>
     match(match j with
      |.map none=>some []
      |.map (some k)=>match st.get k with
       |some (.map b _)=>some b
       |_=>none
      |_=>none:Option (List MapEntry))with
     |none=>none
     |some b=>match rE d.desc l b 0 with
      |none=>none
      |some (some (_,i))=>val (if a then .tuple #[i,.bool true]else i) st
      |some none=>match Iz c.agg c.zero with
       |none=>none
       |some h=>val (if a then .tuple #[h,.bool false]else h) st
   |_,_=>none
  |_=>none
def xi:List MapEntry->Nat->Value->Value->List MapEntry
 |[],_,_,_=>[]
 |e::a,d,b,c=>match d with
  |0=>{e with key:=b,val:=c}::a
  |f+1=>e::xi a f b c
def jo(C:dR)(t:TypeId)(j g h:Value)(st:St):Option AR:=
 match C.tt.get t,j with
 |some d,.map (some f)=>
  match d.desc with
  |.map e _=>
   match C.tt.get e,st.get f with
   |some c,some (.map b a)=>
    match rF c.desc with
    |false=>none
    |true=>match rE c.desc g b 0 with
     |none=>none
     |some (some (i,_))=>val lr (st.put f (.map (xi b i g h) a))
     |some none=>val lr (st.put f (.map (b++[{key:=g,val:=h,born:=a}]) (a+1)))
   |_,_=>none
  |_=>none
 |_,_=>none
def jg(C:dR)(e:Value)(t:TypeId)(a:Bool)(st:St):Option AR:=
 match C.tt.get t with
 |none=>none
 |some b=>
  match b.desc with
  |.interface _=>none
  |_=>
   match e with
   |.iface f d=>match abK f t with
    |true=>val (if a then .tuple #[d,.bool true]else d) st
    |false=>match a,Iz b.agg b.zero with
     |true,some c=>val (.tuple #[c,.bool false]) st
     |_,_=>none
   |.nilIface=>match a,Iz b.agg b.zero with
    |true,some c=>val (.tuple #[c,.bool false]) st
    |_,_=>none
   |_=>none
def pB(b:Value)(d:Nat)(st:St):Option AR:=
 match b with
 |.tuple a=>match nth a.toList d with
  |some c=>val c st
  |none=>none
 |_=>none
def ii(st:St)(es n:Nat):Value->Option (List Value)
 |.slice none _ _=>some []
 |.slice (some ⟨b,c,none⟩) _ _=>gq st b c (n*es)
 |.string a=>some (ofBytes (a.data.toList.take n))
 |_=>none
def rf:Value->Option Nat
 |.slice _ b _=>some b
 |.string a=>some a.data.toList.length
 |_=>none
def fy:Nat:=1099511627776
def fP(st:St)(es:Nat)(a:Option Addr)(len b:Nat)(n:Nat)(xs:List Value):Option AR:=
 match abL (len+n) b with
 |true=>
  match a with
  |none=>val (.slice none (len+n) b) st
  |some ⟨i,e,none⟩=>
   match xs with
   |[]=>val (.slice a (len+n) b) st
   |_=>match fY st i (e+len*es) xs with
    |some j=>val (.slice a (len+n) b) j
    |none=>none
  |_=>none
 |false=>
  match a with
  |none=>val (.slice (some ⟨st.n,0,none⟩) n n) (st.new (.cells xs es st.n 0))
  |some ⟨i,e,none⟩=>
   match st.get i with
   |some (.cells m l c h)=>
    match abK l es,gq st i e (len*es)with
    |true,some k=>
     let d:=st.kill c st.n (h+e+len*es) (h+e+(len+n)*es)
     let g:=match d.fm.get c with|some g=>g|none=>if abL m.length (e+len*es)then [i]else []
     let f:=if abL m.length (e+len*es)then d else d.put i .dead
     val (.slice (some ⟨st.n,0,none⟩) (len+n) (len+n))
      {hp:=f.hp.set st.n (.cells (k++xs) es c (h+e)),n:=st.n+1,fm:=f.fm.set c (st.n::g)}
    |_,_=>none
   |_=>none
  |_=>none
def o6(C:dR)(a:List TypeId)(d:List Value)(st:St):Option AR:=
 match a,d with
 |[l,m],[o,n]=>
  match C.tt.get l,C.tt.get m,o with
  |some k,some h,.slice f c j=>
   match k.desc with
   |.slice g=>
    match C.tt.get g with
    |some b=>
     match h.desc with
     |.int _=>none
     |_=>match rf n with
      |none=>none
      |some i=>match ii st b.size i n with
       |none=>none
       |some e=>match aet 0 b.size&&abK e.length (i*b.size)&&e.all fM&&abL ((c+i)*b.bytes) fy&&abL (c+i) fy&&abK b.zero.length b.size with
        |true=>fP st b.size f c j i e
        |false=>none
    |none=>none
   |_=>none
  |_,_,_=>none
 |_,_=>none
def IA(C:dR)(b:List TypeId)(d:List Value)(st:St):Option AR:=
 match b,d with
 |ts::_,[.slice f a _,src]=>
  match C.tt.get ts with
  |some i=>
   match i.desc with
   |.slice g=>match C.tt.get g,rf src with
    |some j,some c=>
     match ii st j.size (Nat.min c a) src with
     |some e=>match f,e with
      |none,_=>val (.int .i64 (.ofNat (Nat.min c a))) st
      |_,[]=>val (.int .i64 (.ofNat (Nat.min c a))) st
      |some ⟨k,l,none⟩,e=>match fY st k l e with
       |some h=>val (.int .i64 (.ofNat (Nat.min c a))) h
       |none=>none
      |_,_=>none
     |none=>none
    |_,_=>none
   |_=>none
  |none=>none
 |_,_=>none
def yf(C:dR)(a:List TypeId)(b:List Value)(st:St):Option AR:=
 match a,b with
 |t::_,f::_=>
  match C.tt.get t with
  |none=>none
  |some c=>
   match c.desc,f with
   |.string,.string g=>val (.int .i64 (.ofNat g.data.toList.length)) st
   |.array d _,_=>val (.int .i64 (.ofNat d)) st
   |.slice _,.slice _ d _=>val (.int .i64 (.ofNat d)) st
   |.map _ _,.map none=>val (.int .i64 (.ofNat 0)) st
   |.map _ _,.map (some h)=>match st.get h with
    |some (.map e _)=>val (.int .i64 (.ofNat e.length)) st
    |_=>none
   |_,_=>none
 |_,_=>none
def nO(b:Bool):Value->List Value->Option Value
 |.int c a,[]=>some (.int c a)
 |.int c a,.int _ d::e=>nO b (.int c (if(match b with|true=>tZ a d|false=>tZ d a)then d else a)) e
 |_,_=>none
def j9(C:dR)(b:Builtin)(a:List TypeId)(c:List Value)(st:St):Option AR:=
 match b with
 |.append=>o6 C a c st
 |.copy=>IA C a c st
 |.len=>yf C a c st
 |.max=>match c with
  |x::e=>match nO true x e with
   |some d=>val d st
   |none=>none
  |[]=>none
 |.min=>match c with
  |x::e=>match nO false x e with
   |some d=>val d st
   |none=>none
  |[]=>none
 |.recover=>some .recover
 |_=>none
def lx(C:dR)(f:Value)(b:List Value)(st:St):Option AR:=
 match f with
 |.func (.func d) first a=>
  let c:=first.toList++b++a.toList
  match C.ff.get d with
  |some _=>some (.enter d c)
  |none=>match C.ext d c with
   |some e=>val e st
   |none=>none
 |.func (.yield g) first _=>match first.toList with
  |[]=>some (.yield g b)
  |_=>none
 |_=>none
def Co(f:Value)(args:List Value):Option AR:=
 match f with
 |.func (.func b) first a=>some (.defer {target:=.fn (.func b) a,args:=(first.toList++args).toArray})
 |_=>none
def j8(C:dR)(a:Operand->Option Value)(o:Oper)(st:St):Option AR:=
 match o.op with
 |.move d=>match a d with|some b=>val b st|none=>none
 |.assign d=>match a d with|some b=>val b st|none=>none
 |.pick h j r=>match a h,a j,a r with
  |some (.bool c),some f,some b=>val (match c with|true=>f|false=>b) st
  |_,_,_=>none
 |.alloc c=>xf C c st
 |.box _ d=>match a d with|some b=>Li b st|none=>none
 |.build c k=>match l9 a k.toList with|some g=>xc C c g st|none=>none
 |.buildSlice c y k=>match l9 a k.toList with|some g=>kf C c y g st|none=>none
 |.load c j=>match a j with|some b=>ye C c b st|none=>none
 |.store c j d=>match a j,a d with|some b,some f=>iC C c b f st|_,_=>none
 |.nilCheck d=>match a d with|some b=>ng b st|none=>none
 |.binOp p c d w _=>match a d,a w with
  |some f,some b=>match Gj C p c d w f b with
   |some s=>val s st
   |none=>none
  |_,_=>none
 |.unOp p _ d=>match a d with
  |some f=>match aUn p f with
   |some s=>val s st
   |none=>none
  |none=>none
 |.convert z x d=>match a d with|some b=>ig C z x b st|none=>none
 |.makeInterface c d=>match a d with|some b=>gU C c b st|none=>none
 |.makeFunc fn j r=>match aau fn,nf a j.toList,nf a r.toList with
  |true,some f,some b=>val (.func fn f.toArray b.toArray) st
  |_,_,_=>none
 |.makeMap _ none=>val (.map (some st.n)) (st.new (.map [] 0))
 |.makeSlice c g h=>match a g,a h with|some f,some b=>jn C c f b st|_,_=>none
 |.slice c d v u t=>match a d,(match v with|none=>some none|some g=>(a g).map some),(match u with|none=>some none|some g=>(a g).map some),(match t with|none=>some none|some g=>(a g).map some)with
  |some b,some g,some A,some i=>pA C c b g A i st
  |_,_,_,_=>none
 |.fieldAddr c d l=>match a d with|some b=>fI C c b l st|none=>none
 |.field c d l=>match a d with|some b=>xh C c b l st|none=>none
 |.indexAddr c d q=>match a d,a q with|some f,some b=>gv C c f b st|_,_=>none
 |.index c d q=>match a d,a q with|some f,some b=>ue C c f b st|_,_=>none
 |.lookup c d q n=>match a d,a q with|some f,some b=>qs C c f b n st|_,_=>none
 |.mapUpdate c i m b=>match a i,a m,a b with|some i,some m,some b=>jo C c i m b st|_,_,_=>none
 |.insert c i m b=>match a i,a m,a b with|some i,some m,some b=>jo C c i m b st|_,_,_=>none
 |.typeAssert d _ c n=>match a d with|some b=>jg C b c n st|none=>none
 |.extract d q=>match a d with|some b=>pB b q st|none=>none
 |.call h=>match nf a h.args.toList with
  |none=>none
  |some e=>match h.callee with
   |.builtin r=>j9 C r h.argTypes.toList e st
   |.value l=>match a l with
    |some b=>lx C b e st
    |none=>none
   |.invoke _ _=>none
 |.defer h=>match nf a h.args.toList,h.callee with
  |some e,.value l=>match a l with
   |some b=>Co b e
   |none=>none
  |_,_=>none
 |.panic d=>match a d with
  |some (.iface c b)=>some (.eH (.iface c b) st)
  |_=>none
 |_=>none
end Go.AM
