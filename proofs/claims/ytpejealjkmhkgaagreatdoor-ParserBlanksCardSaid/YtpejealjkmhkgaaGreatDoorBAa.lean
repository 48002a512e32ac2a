/- Part of the proof. -/
import Derived.Calls
import Derived.Below
import Derived.Lib.Builder
import Derived.Lib.UnsafeStr
import Derived.Laws.Entries
import Derived.WideLaws
import Derived.Laws.Strings
import Derived.Laws.StructEq
import Derived.Laws.World
set_option linter.all false
set_option maxHeartbeats 16000000
set_option maxRecDepth 100000
open Nat renaming beq->agj,le_of_ble_eq_true->agk,eq_of_beq_eq_true->agm,ble->agn,blt->agq,blt_eq->agv,testBit->agy,lt_or_ge->agA,lt_succ_of_lt->agC,le_refl->agD,mul_le_mul_right->agG,add_mul->agH,add_assoc->agI,beq_eq->agM,ne_of_beq_eq_false->agQ,sub_self->agR
open Array renaming getElem?_toList->agl,length_toList->agu,getElem?_push->agz,getElem?_eq_getElem->agL,getElem?_push_size->agN
open Bool renaming and_eq_true->ago,false_eq_true->agp,eq_iff_iff->agt,not_false->agK
open List renaming length_cons->agr,getElem?_eq_none->ags,mem_cons->agw,range->agx,getElem?_append_left->agB,length_nil->agE,getElem?_append_right->agJ,getElem?_cons_succ->agO,all_cons->agP,getElem?_take->agS,getElem?_drop->agT
open Int renaming ofNat->agF
namespace Go.AM
abbrev cq:Type:=List UInt8
abbrev ql:Type:=FuncId->List Value->Option Value
variable{g:Prop}
theorem om(a:g:=by omega):g:=a
theorem dc(a:g:=by decide):g:=a
theorem sm(a:g:=by simp):g:=a
theorem tv:True:=trivial
theorem Z.{c}{a:Sort c}{b:a}:b=b:=rfl
theorem X6 (h:g:=by
  have XC:(R.tok q2).kind≠0:=fun e=>by rw[e]at h6;cases h6
  rw[if_pos XC]at hd;rcases els with _|⟨d0,dr⟩
  ·obtain rfl:os=[]:=List.eq_nil_of_length_eq_zero Vm;refine eF R q2 _ (b0 F5) 0 Z ?_;intro b7;refine a6 Z (a6 ⟨Nat.le_of_ble_eq_true Z,Nat.le_of_ble_eq_true Z⟩ (a7 Z ?_));repeat refine ch ?_
   refine E2 w (p:=q2) ⟨fun p' t q h=>ht.lt p' t q om,fun p' h=>ht.call p' om⟩ (fun p' t q h=>hg p' t q om) (hex.up om) F5 0 ?_ (fun d c q8 e8 hdc=>?_) (fun off er q8 e8=>?_)
   ·exact Z
   ·obtain⟨Rt,lo,up,dty,dex,DY,D1,Ic,wi,Nw,rfl⟩:=hdc;obtain⟨ka,ma,na,aa,fa,rfl⟩:=D1.cZ;obtain⟨kb,mb,nb,ab,fb,rfl⟩:=Ic.cZ;obtain⟨kc,mc,nc,ac,fc,rfl⟩:=wi.cZ;obtain⟨kd,md,nd,xd,ud,td,ld,dd,rfl⟩:=Nw.eight;obtain⟨adu,Z4⟩:=Cg w ht.lt hex.lt om F5 e8;rw[e8]at hd;dsimp only at hd;repeat refine ch ?_
    intro b9;refine cf ?_;refine a6 Z (a6 ⟨Nat.le_of_ble_eq_true Z,Nat.le_of_ble_eq_true Z⟩ (a7 Z ?_));repeat refine ch ?_
    exact⟨(q8,[mR d.k d.n d.exp d.wj d.note Rt [.int .i64 (Int.ofNat ka),.str ma,.str na,aa,fa] [.int .i64 (Int.ofNat kb),.str mb,.str nb,ab,fb] [.int .i64 (Int.ofNat kc),.str mc,.str nc,ac,fc] [.int .i64 (Int.ofNat kd),.str md,.str nd,.str xd,.int .i64 ud,td,ld,dd] d.m d.tg],[(R.tok q2).off]),⟨by show q1<=q8;omega,Z4,by show 1<=q8;omega,Z,f2,ds++[d],by show R.ts.length-q8<=f2;omega,Z5.snoc ⟨_,_,_,_,_,DY,D1,Ic,wi,Nw,Z⟩,hd⟩,by show R.ts.length-q8<R.ts.length-q2;omega,.pick 1 [0,1,2,6,5] ⟨Z,Z,Z,Z,tv⟩ Z Z Z Z Z dc ⟨Z,Z,Z,Z,Z,Z,lj _ 31 (mR d.k d.n d.exp d.wj d.note Rt [.int .i64 (Int.ofNat ka),.str ma,.str na,aa,fa] [.int .i64 (Int.ofNat kb),.str mb,.str nb,ab,fb] [.int .i64 (Int.ofNat kc),.str mc,.str nc,ac,fc] [.int .i64 (Int.ofNat kd),.str md,.str nd,.str xd,.int .i64 ud,td,ld,dd] d.m d.tg),gH _ _ _,lj _ 1 [.int .i64 (Int.ofNat (R.tok q2).off)],gH _ _ _,tv⟩,Z,Z⟩
   ·exact w8 (by simp only[hM,hd,e8,PR.map])
  ·obtain⟨o0,or,rfl⟩:∃a b,os=a::b:=by cases os with
    |nil=>simp at Vm
    |cons a b=>exact⟨a,b,rfl⟩
   have hdr:dr.length+1<=65537:=by simp only[List.length_cons]at Bm;omega
   have hor:(or.map fun n=>([.int .i64 (Int.ofNat n)]:cH)).length+1<=4294967296:=by simp only[List.length_cons,List.length_map]at Vm Bm⊢;omega
   refine eF R q2 _ (b0 F5) 0 Z ?_;intro b7;refine a6 Z (a6 ⟨Z,Z,by simp,Nat.le_refl _,rB hor (Nat.le_refl _) (Nat.le_of_ble_eq_true Z)⟩ (a7 Z (a7 (lk _) ?_)));repeat refine ch ?_
   refine E2 w (p:=q2) ⟨fun p' t q h=>ht.lt p' t q om,fun p' h=>ht.call p' om⟩ (fun p' t q h=>hg p' t q om) (hex.up om) F5 0 ?_ (fun d c q8 e8 hdc=>?_) (fun off er q8 e8=>?_)
   ·exact Z
   ·obtain⟨Rt,lo,up,dty,dex,DY,D1,Ic,wi,Nw,rfl⟩:=hdc;obtain⟨ka,ma,na,aa,fa,rfl⟩:=D1.cZ;obtain⟨kb,mb,nb,ab,fb,rfl⟩:=Ic.cZ;obtain⟨kc,mc,nc,ac,fc,rfl⟩:=wi.cZ;obtain⟨kd,md,nd,xd,ud,td,ld,dd,rfl⟩:=Nw.eight;obtain⟨adu,Z4⟩:=Cg w ht.lt hex.lt om F5 e8;rw[e8]at hd;dsimp only at hd;repeat refine ch ?_
    intro b9;refine cf ?_;refine a6 Z (a6 ⟨Z,Z,by simp,Nat.le_refl _,adv hdr (Nat.le_refl _) (Nat.le_of_ble_eq_true Z)⟩ (a7 Z (a7 (lk _) ?_)));repeat refine ch ?_
    exact⟨(q8,(d0::dr)++[mR d.k d.n d.exp d.wj d.note Rt [.int .i64 (Int.ofNat ka),.str ma,.str na,aa,fa] [.int .i64 (Int.ofNat kb),.str mb,.str nb,ab,fb] [.int .i64 (Int.ofNat kc),.str mc,.str nc,ac,fc] [.int .i64 (Int.ofNat kd),.str md,.str nd,.str xd,.int .i64 ud,td,ld,dd] d.m d.tg],(o0::or)++[(R.tok q2).off]),⟨by show q1<=q8;omega,Z4,by show((d0::dr)++[_]).length<=q8;simp only[List.length_append,List.length_cons,List.length_nil]at Bm⊢;omega,by show((o0::or)++[_]).length=((d0::dr)++[_]).length;simp only[List.length_append,List.length_cons,List.length_nil]at Vm⊢;omega,f2,ds++[d],by show R.ts.length-q8<=f2;omega,Z5.snoc ⟨_,_,_,_,_,DY,D1,Ic,wi,Nw,Z⟩,hd⟩,by show R.ts.length-q8<R.ts.length-q2;omega,.pick 1 [0,1,2,6,5] ⟨Z,Z,Z,abG o0 or (R.tok q2).off Z,tv⟩ Z Z Z Z Z dc ⟨Z,Z,Z,Z,Z6 s _ d0 dr (mR d.k d.n d.exp d.wj d.note Rt [.int .i64 (Int.ofNat ka),.str ma,.str na,aa,fa] [.int .i64 (Int.ofNat kb),.str mb,.str nb,ab,fb] [.int .i64 (Int.ofNat kc),.str mc,.str nc,ac,fc] [.int .i64 (Int.ofNat kd),.str md,.str nd,.str xd,.int .i64 ud,td,ld,dd] d.m d.tg) Z,abH s _ _ Z,jQ _ 31 d0 dr (mR d.k d.n d.exp d.wj d.note Rt [.int .i64 (Int.ofNat ka),.str ma,.str na,aa,fa] [.int .i64 (Int.ofNat kb),.str mb,.str nb,ab,fb] [.int .i64 (Int.ofNat kc),.str mc,.str nc,ac,fc] [.int .i64 (Int.ofNat kd),.str md,.str nd,.str xd,.int .i64 ud,td,ld,dd] d.m d.tg),gH _ _ _,Z7 o0 or (R.tok q2).off,gH _ _ _,tv⟩,Z,Z⟩
   ·exact w8 (by simp only[hM,hd,e8,PR.map])):g:=h
theorem Sa (h:g:=by
  repeat refine de ?_
  refine sd (∀p∈x.ps,p.b=cV) Z (fun p hp d hd {σ K} hk=>OR hd (fun b hb=>hk b (fun q=>hb (q p hp)))) hpl h1 (fun bz hbz=>?_);rcases hkd with⟨hk,mS,hex,hm,htg,DY⟩|⟨hk,mS,D1,Ic,hm,htg,DY⟩|⟨hk,DY,D1,Ic,wi,hex,hm,mS,htg⟩
  ·have hb3:decide (Int.ofNat x.k=0)=true:=by rw[hk];rfl
   have hb4:bz=false:=hbz fun p hp=>(DY p hp).1;subst hb4;repeat refine de ?_
   refine sd (∀p∈x.ps,p.vr<=2) Z (fun p hp d hd {σ K} hk=>OS hd (fun b hb=>hk b (fun q=>hb (q p hp)))) hpl h1 (fun bv hbv=>?_);have hb5:bv=false:=hbv fun p hp=>(DY p hp).2;subst hb5;repeat refine de ?_
   refine xU (hex▸h5) ?_;have hb6:decide (x.m=[])=true:=by rw[hm];rfl
   repeat refine de ?_
   exact a8 0 ⟨Z,by rw[htg];rfl⟩
  ·have hb3:decide (Int.ofNat x.k=0)=false:=by rw[hk];rfl
   have hb4:decide (Int.ofNat x.k=1)=true:=by rw[hk];rfl
   repeat refine de ?_
   refine sd (∀p∈x.ps,p.vr=0) Z (fun p hp d hd {σ K} hk=>OT hd (fun b hb=>hk b (fun q=>hb (q p hp)))) hpl h1 (fun bv hbv=>?_);have hb5:bv=false:=hbv fun p hp=>DY p hp;subst hb5;repeat refine de ?_
   refine hz D1 h2 ?_;repeat refine de ?_
   refine hz Ic h3 ?_;have hb6:decide (x.m=[])=true:=by rw[hm];rfl
   repeat refine de ?_
   exact a8 0 ⟨Z,by rw[htg];rfl⟩
  ·have hb3:decide (Int.ofNat x.k=0)=false:=by rw[hk];rfl
   have hb4:decide (Int.ofNat x.k=1)=false:=by rw[hk];rfl
   have hb7:decide (Int.ofNat x.k=2)=true:=by rw[hk];rfl
   have hpn:ps=.ci∨∃b o c,ps=.ps b o 7 c []:=by
    rw[DY]at h1;cases h1 with
    |nil=>exact .inl rfl
    |ps h=>cases h;exact .inr ⟨_,_,_,rfl⟩
   rcases hpn with rfl|⟨b,o,c,rfl⟩;all_goals
    repeat refine de ?_
    refine hz D1 h2 ?_;repeat refine de ?_
    refine hz Ic h3 ?_;repeat refine de ?_
    refine hz wi h4 ?_;repeat refine de ?_
    refine xU (hex▸h5) ?_;exact a8 0 ⟨Z,Z⟩):g:=h
theorem RO (h:g:=by
  have Nx:=Z8;rw[zG,wi]at Nx;rw[zG,wi];repeat' first|(change jR _ _ _;first|refine cg (by with_reducible assumption) ?_|refine a7 (by with_reducible assumption) ?_|refine aZ (fun _=>?_) (fun _=>?_))|refine cC Nx rfl rfl ?_
  all_goals first
   |exact a8 1 ⟨rfl,rfl,congrArg (fun v=>cO.ret (b5 v)) (E3 (by clear Z9 Z8 Nx hfi hC Vn hex hsz h8 hw h hl ht hk;simp only[decide_eq_true_eq,decide_eq_false_iff_not,Int.ofNat_eq_natCast]at*;omega)).symm⟩
   |exact cw (dB:=[(2,.bp 1 0)]) (fU:=OU k m n x num ty lb kd s t l f) (.same ⟨rfl,tv⟩ (by rw[zG,wi];rfl)) (hC () (by clear Z9 Z8 Nx hfi hC Vn hex hsz h8 hw h hl ht hk;simp only[decide_eq_true_eq,decide_eq_false_iff_not,Int.ofNat_eq_natCast]at*;omega))):g:=h
theorem X7 (h:g:=by
  have hH2:mN ⟨mp,lY,nL⟩=mT mp [] lY:=by rw[hH,if_neg om]
  refine cm ?_;refine lH mp om ?_;refine a7 (by rw[hp'];rfl) ?_;repeat refine de ?_
  refine abI (fun n hn'=>?_);have hb3:decide (4096<Int.ofNat n)=false:=decide_eq_false (by simp only[Int.ofNat_eq_natCast];omega);repeat refine de ?_
  refine cD (dB:=[(1,.bp 0 0),(27,.d (.ps b o 2 c (lY.map fF))),(28,b5 (lY.map fF).length),(29,b5 0)]) ?_;refine cd.iter (fun i:Nat=>[(1,.bp 0 0),(27,.d (.ps b o 2 c (lY.map fF))),(28,b5 (lY.map fF).length),(29,b5 i)]) (fun _=>_) (fun i=>lY.length-i) (fun i=>i<=lY.length/\mT mp [] lY=mT mp (lY.take i) (lY.drop i)) ?_ 0 ⟨Nat.zero_le _,Z⟩;rintro i ⟨hi,hS⟩;have hml:(lY.map fF).length=lY.length:=List.length_map _;apply aZ<;>intro h
  ·have hi':i<lY.length:=hml▸ee h;have hx:nth (lY.map fF) i=some (fF lY[i]):=by rw[ck,List.getElem?_map,List.getElem?_eq_getElem hi'];rfl
   obtain⟨RB,hx2⟩:=adw lY[i] (List.getElem_mem hi');have hx3:=XD _ RB;rw[List.drop_eq_getElem_cons hi',mT]at hS;refine bZ Z ?_;refine cc _ hx ?_;refine lH lY[i].p om ?_;have hb4:(!fV lY[i].p)=false:=by rw[RB];rfl
   repeat refine de ?_
   refine ic lY[i].a (lZ hx2) ?_;have hb5:(!cK lY[i].a)=false:=by rw[hx2];rfl
   repeat refine de ?_
   apply aZ<;>intro h1
   ·have D2:lY[i].p=mp:=of_decide_eq_true h1;exact a8 0 ⟨Z,by rw[hH2,hS,if_pos D2];rfl⟩
   ·have D2:¬lY[i].p=mp:=of_decide_eq_false h1;rw[if_neg D2]at hS;refine bZ Z ?_;refine a6 ⟨Nat.zero_le _,om,om,om,Z⟩ ?_;refine K4 lY[i] (lY.take i) (by rw[List.map_take];rfl) (by rw[List.length_take];omega) _ _ _ 1 Z ?_;apply aZ<;>intro h2
    ·have Ie:(lY.take i).any (pv lY[i])=true:=h2;rw[if_pos Ie]at hS;exact a8 0 ⟨Z,by rw[hH2,hS];rfl⟩
    ·have Ie:(lY.take i).any (pv lY[i])=false:=h2;rw[if_neg (by rw[Ie];decide),List.take_append_getElem hi']at hS;exact⟨i+1,⟨hi',hS⟩,iK,.eP 0 [0],Z,Z⟩
  ·have hi':lY.length<=i:=hml▸dq h;rw[List.drop_of_length_le hi']at hS;exact a8 0 ⟨Z,by rw[hH2,hS];rfl⟩):g:=h
theorem Ip (a:g:=by
  rcases hf.cS with rfl|⟨b2,o2,abJ,rfl⟩
  ·refine gI Z _ _ ll.nil dc (fun x j hj=>absurd hj (Nat.not_lt_zero _)) ?_;refine iy _ _ ll.nil dc List.Pairwise.nil ?_;exact a8 0 ⟨Z,Z⟩
  ·refine gI Z _ _ (ll.ps .nil) dc (fun x j hj=>absurd hj (Nat.not_lt_zero _)) ?_;refine iy _ _ (ll.ps .nil) dc List.Pairwise.nil ?_;exact a8 0 ⟨Z,Z⟩):g:=a
theorem X8 (h:g:=by
  have Zy:kind≠0->p+1<R.ts.length:=fun h=>w.go p _ K5 h;have xS:kind≠0->eu ⟨kind,text,off⟩ p=p+1:=fun h=>if_neg h;refine cv qm (fun _=>Z) ?_;refine dK R p _ K5 om 0 Z ?_;first|have hq0:p+1<R.ts.length:=Zy om|skip
  first|rw[xS om]|skip
  subst h1;repeat refine cf ?_
  refine cj ?_;refine cc none Z ?_;refine cc none Z ?_;refine cc none Z ?_;refine cc none Z ?_;refine cc none Z ?_;refine cc _ Ik ?_;repeat refine cf ?_
  intro b;refine ep R w [[58,58]] dc (p+1) hq0 _ _ 0 ?_ ?_
  ·exact Z
  cases hn:cu R [[58,58]] (p+1)with
  |bad off e=>
   intro q;refine a8 1 ⟨_,Z,Z,Z,?_⟩;rw[hF];simp only[ja,if_true,if_false,reduceIte,Nat.reduceEqDiff,PR.map,hn];exact⟨q,Z,Z⟩
  |ok _ q1=>
   have hq1:=da w _ _ _ hq0 hn;have hm1:p+1<=q1:=by rw[cL _ _ _ hn];omega
   refine se R q1 2 (R.tok q1) (b0 hq1) om 0 ?_ (fun Vg=>?_) (fun Vg=>?_)
   ·exact Z
   ·have hq2:q1+1<R.ts.length:=w.go q1 _ (b0 hq1) om;rw[show eu (R.tok q1) q1=q1+1 from if_neg om];repeat refine cf ?_
    refine vx R w (b8 R f) (q1+1) hq2 (ht.up om) 0 ?_ (fun l d q e1 hd=>?_) (fun off e q e1=>?_)
    ·exact Z
    ·repeat refine cf ?_
     refine a8 1 ⟨_,Z,Z,Z,?_⟩;rw[hF];simp only[ja,if_true,if_false,reduceIte,Nat.reduceEqDiff,PR.map,hn,Vg,ne_eq,not_true,e1];exact⟨Z,_,.mk hd .nil,Z⟩
    ·refine a8 1 ⟨_,Z,Z,Z,?_⟩;rw[hF];simp only[ja,if_true,if_false,reduceIte,Nat.reduceEqDiff,PR.map,hn,Vg,ne_eq,not_true,e1];exact⟨q,Z,Z⟩
   ·refine a8 1 ⟨_,Z,Z,Z,?_⟩;rw[hF];simp only[ja,if_true,if_false,reduceIte,Nat.reduceEqDiff,PR.map,hn,Vg,ne_eq,not_false_iff];exact⟨_,Z,Z⟩):g:=h
theorem Nn (a:g:=by
  generalize et isWord s=n at hnl x5 Vn;have Vo:(s.take n).length<4294967296:=by rw[List.length_take];omega
  repeat first|refine bZ rfl (a6 ⟨Nat.zero_le _,hnl⟩ ?_)|refine cf ?_
  refine BL (fun b=>?_);repeat first|refine bZ rfl (a6 ⟨Nat.zero_le _,hnl⟩ ?_)|refine cf ?_
  refine DF kwL dc _ b 28 ?_;rw[List.drop_zero,<-Uj Vn];repeat refine cf ?_
  apply aZ<;>intro hk
  ·have K5:oa s=.ok 5 (s.take n) n:=by rw[x5,nM,if_pos hk]
   refine bZ Z (a6 ⟨Nat.zero_le _,hnl⟩ ?_);refine a8 0 ⟨Z,by rw[K5];rfl⟩
  ·refine bZ Z (a6 ⟨Nat.zero_le _,hnl⟩ ?_);refine eU (s.take n) Vo ?_;apply aZ<;>intro Vg
   ·have K5:oa s=.ok 1 (s.take n) n:=by rw[x5,nM,if_neg (by rw[hk];decide),if_pos Vg]
    refine bZ Z (a6 ⟨Nat.zero_le _,hnl⟩ ?_);refine a8 0 ⟨Z,by rw[K5];rfl⟩
   ·refine bZ Z (a6 ⟨Nat.zero_le _,hnl⟩ ?_);refine fD (s.take n) Vo ?_;apply aZ<;>intro hk3
    ·have K5:oa s=.ok 2 (s.take n) n:=by rw[x5,nM,if_neg (by rw[hk];decide),if_neg (by rw[show cK (s.take n)=false from Vg];decide),if_pos hk3]
     refine bZ Z (a6 ⟨Nat.zero_le _,hnl⟩ ?_);refine a8 0 ⟨Z,by rw[K5];rfl⟩
    ·have K5:oa s=.err 4:=by rw[x5,nM,if_neg (by rw[hk];decide),if_neg (by rw[show cK (s.take n)=false from Vg];decide),if_neg (by rw[show dX (s.take n)=false from hk3];decide)]
     refine a8 0 ⟨Z,by rw[K5];rfl⟩):g:=a
theorem RP (a:g:=by
  refine gI Z _ _ ll.nil dc (fun x j hj=>absurd hj (Nat.not_lt_zero _)) ?_;refine iy _ _ ll.nil dc List.Pairwise.nil ?_;exact a8 0 ⟨Z,Z⟩):g:=a
theorem NG (a:g:=by
  repeat refine cf ?_
  refine cj ?_;refine cc none Z ?_;refine cc none Z ?_;refine cc none Z ?_;refine cc none Z ?_;refine cc none Z ?_;refine cc _ Ik ?_;repeat refine cf ?_
  refine a8 1 ⟨_,Z,Z,Z,?_⟩;rw[hF];simp only[ja,if_true,if_false,reduceIte,Nat.reduceEqDiff,PR.map];exact⟨Z,_,.mk .nil .nil,Z⟩):g:=a
theorem tI (h:g:=by
  repeat' split at h
  all_goals first|cases h;done|(cases h;exact⟨_,_,rfl⟩)):g:=h
theorem Cl (a:g:=by
  repeat refine ch ?_
  refine gI Z _ _ ll.nil dc (fun x j hj=>absurd hj (Nat.not_lt_zero _)) ?_;exact a8 0 ⟨Z,Z⟩):g:=a
theorem No (a:g:=by
  repeat refine de ?_
  repeat first|refine a6 dc ?_|refine bZ (m:=s[i].toNat/16) (afF _ ht) ?_|refine cc _ RB ?_|refine bZ (m:=s[i].toNat%16) rfl ?_|refine cc _ hx2 ?_|refine a6 (by repeat' (first|exact tv|exact rfl|decide|refine bZ (m:=s[i].toNat/16) (afF _ ht) ?_|refine cc _ RB ?_|refine bZ (m:=s[i].toNat%16) rfl ?_|refine cc _ hx2 ?_|refine And.intro ?_ ?_|refine a6 ?_ ?_)) ?_
  intro b;repeat first|refine a7 (hf _) ?_|refine a7 rfl ?_|refine a6 (by repeat' (first|exact tv|exact rfl|decide|exact Nat.le_refl _|exact hm|exact(hg _ (Nat.le_of_ble_eq_true rfl)).1|exact(hg _ (Nat.le_of_ble_eq_true rfl)).2|refine bZ (m:=s[i].toNat/16) (afF _ ht) ?_|refine cc _ RB ?_|refine bZ (m:=s[i].toNat%16) rfl ?_|refine cc _ hx2 ?_|refine And.intro ?_ ?_|refine a6 ?_ ?_)) ?_
  refine⟨i+1,hi',by show s.length-(i+1)<s.length-i;omega,?_,Z,Z⟩;show Gz 0 [(0,cn s),(3,cn zI),(4,Wg (34::(s.take (i+1)).flatMap qc)),(5,b5 (i+1:Nat))] (Wh (34::(s.take (i+1)).flatMap qc)) [] .none _ _;rw[hnx,e];exact Yt (r:=acc) (cs:=[92,120,KR (s[i].toNat/16),KR (s[i].toNat%16)]) Z Z Z Z (int_eq (cp om))):g:=a
theorem Ya (b:g:=by
  repeat refine de ?_
  refine xV Il (c::r2) om ?_;repeat refine de ?_
  apply aZ<;>intro h5
  ·have h5':(c::r2).all isDigit=false:=sh h5;repeat refine de ?_
   refine a8 0 ⟨Z,Z,_,by rw[hI,h5'];simp;rfl⟩
  ·have h5':(c::r2).all isDigit=true:=zJ h5;repeat refine de ?_
   have hIt:tS (118::c::r2)=true:=by rw[hI,h5',hB,decide_eq_false D2,decide_eq_true Ie];rfl
   rw[hIt];refine cD (dB:=[(0,cn (c::r2)),(5,.d (.int .i64 0)),(39,b5 (c::r2).length),(40,b5 0)]) ?_;refine cd.iter (fun a:Nat×Int=>[(0,cn (c::r2)),(5,.d (.int .i64 a.2)),(39,b5 (c::r2).length),(40,b5 a.1)]) (fun _=>[]) (fun a=>(c::r2).length-a.1) (fun a=>a.1<=(c::r2).length) ?_ (0,0) (Nat.zero_le _);rintro⟨i,x⟩ hi;have hi:i<=(c::r2).length:=hi;apply aZ<;>intro h6
   ·have XC:i<(c::r2).length:=ee h6;refine bZ Z (cc (c::r2)[i] (by rw[ck];exact List.getElem?_eq_getElem XC) ?_);exact⟨(i+1,_),XC,iK,.eS,Z,Z⟩
   ·refine a8 0 ⟨Z,Z,_,Z⟩):g:=b
theorem Sd (h:g:=by
  have Bm:=hf.len;apply aZ<;>intro hc
  ·have h32:=ee (a:=32) hc;rw[Bm]at h32;repeat refine cg hc ?_
   exact a8 0 ⟨Z,by simp[lm,h32,si];rfl⟩
  ·have h32:=dq (a:=32) hc;rw[Bm]at h32;repeat refine a7 hc ?_
   refine gI Z _ _ (ll.ps hf) om (fun x j hj e1 _=>fun hk=>K6 x (by rw[<-e1];exact h.name _ (List.getElem_mem hj)) hk) ?_;refine iy _ _ (ll.ps hf) om h.srt ?_;exact a8 0 ⟨Z,by simp[lm,Nat.not_lt.2 h32,si];rfl⟩):g:=h
theorem Ga (a:g:=by
  repeat refine ch ?_
  refine gI Z _ _ (ll.ps .nil) dc (fun x j hj=>absurd hj (Nat.not_lt_zero _)) ?_;exact a8 0 ⟨Z,Z⟩):g:=a
theorem Yb (h:g:=by
  have Zy:kind≠0->p+1<R.ts.length:=fun h=>w.go p _ K5 h;have xS:kind≠0->eu ⟨kind,text,off⟩ p=p+1:=fun h=>if_neg h;refine cv qm (fun _=>Z) ?_;refine dK R p _ K5 om 0 Z ?_;first|have hq0:p+1<R.ts.length:=Zy om|skip
  first|rw[xS om]|skip
  subst h2;repeat refine cf ?_
  refine cj ?_;refine cc none Z ?_;refine cc none Z ?_;refine cc none Z ?_;refine cc none Z ?_;refine cc none Z ?_;refine cc _ Ik ?_;repeat refine cf ?_
  repeat refine cf ?_
  refine vx R w (b8 R f) (p+1) hq0 ht 0 ?_ (fun l d q e1 hd=>?_) (fun off e q e1=>?_)
  ·exact Z
  ·repeat refine cf ?_
   refine a8 1 ⟨_,Z,Z,Z,?_⟩;rw[hF];simp only[ja,if_true,if_false,reduceIte,Nat.reduceEqDiff,PR.map,e1];exact⟨Z,_,.mk hd .nil,Z⟩
  ·refine a8 1 ⟨_,Z,Z,Z,?_⟩;rw[hF];simp only[ja,if_true,if_false,reduceIte,Nat.reduceEqDiff,PR.map,e1];exact⟨q,Z,Z⟩):g:=h
theorem NH (h:g:=by
  induction l generalizing els i with
  |nil=>simp at hi
  |cons a l ih=>
   cases h with
   |cons h1 h2=>
    cases i with
    |zero=>exact⟨_,rfl,h1⟩
    |succ i=>obtain⟨d,a,b⟩:=ih h2 (i:=i) (by simpa using hi);exact⟨d,by simpa using a,b⟩):g:=h
theorem Iu (a:g:=by
  repeat' (first|exact tv|exact rfl|exact Nat.le_of_ble_eq_true rfl|refine bZ rfl ?_|refine cc tT (xW x0 r) ?_|refine a6 (F6 r) ?_|refine And.intro ?_ ?_)):g:=a
theorem Yc (h:g:=by
  have Zy:kind≠0->p+1<R.ts.length:=fun h=>w.go p _ K5 h;have xS:kind≠0->eu ⟨kind,text,off⟩ p=p+1:=fun h=>if_neg h;refine cv qm (fun _=>Z) ?_;refine dK R p _ K5 om 0 Z ?_;first|have hq0:p+1<R.ts.length:=Zy om|skip
  first|rw[xS om]|skip
  skip
  repeat refine cf ?_
  refine cj ?_;refine cc none Z ?_;refine cc none Z ?_;refine cc none Z ?_;refine cc none Z ?_;refine cc none Z ?_;refine cc _ Ik ?_;repeat refine cf ?_
  refine a7 (zK n5) ?_;repeat refine a7 (zK n5) ?_
  repeat first|refine a7 (zK n5) ?_|refine a7 (zK n6) ?_|refine a7 (zK n2) ?_|refine a7 (zK n1) ?_
  refine fK _ off 3 ?_;refine a8 1 ⟨_,Z,Z,Z,?_⟩;rw[hF];simp only[ja,if_true,if_false,reduceIte,Nat.reduceEqDiff,PR.map,n5,n6,n2,n1];exact⟨_,Z,Z⟩):g:=h
theorem Yd (a:g:=by
  refine bZ Z ?_;refine cc (fe x) (by rw[ck];exact hx) ?_;cases acc with
  |nil=>
   intro b3;refine a6 Z (a6 ⟨Nat.le_of_ble_eq_true Z,Nat.le_of_ble_eq_true Z⟩ ?_);refine⟨(j+1,[x.ty]),⟨lU,xX⟩,iK,?_,Z,Z⟩;exact .pick 1 [0,2] ⟨Z,Z,Z,int_eq (cp om),tv⟩ Z Z Z Z Z dc ⟨Z,Z,Z,Z,tv⟩
  |cons e r=>
   intro b3;have hrl:r.length+1<=4294967296:=by simp only[List.length_cons]at hcl;omega
   refine a6 Z (a6 ⟨Z,Z,by simp,Nat.le_refl _,xY hrl⟩ ?_);refine a7 Z (a7 (fG (r.length+1)) ?_);refine⟨(j+1,e::(r++[x.ty])),⟨lU,xX⟩,iK,?_,Z,Z⟩;exact .pick 1 [0,3] ⟨RF 3 r x.ty,Z,Z,int_eq (cp om),tv⟩ Z Z Z Z Z dc ⟨Z,Z,OW e r x.ty,jv _ _ _,tv⟩):g:=a
theorem Ye (h:g:=by
  have Zy:kind≠0->p+1<R.ts.length:=fun h=>w.go p _ K5 h;have xS:kind≠0->eu ⟨kind,text,off⟩ p=p+1:=fun h=>if_neg h;refine cv qm (fun _=>Z) ?_;refine dK R p _ K5 om 0 Z ?_;first|have hq0:p+1<R.ts.length:=Zy om|skip
  first|rw[xS om]|skip
  subst h6;repeat refine cf ?_
  refine cj ?_;refine cc none Z ?_;refine cc none Z ?_;refine cc none Z ?_;refine cc none Z ?_;refine cc none Z ?_;refine cc _ Ik ?_;repeat refine cf ?_
  refine a7 (decide_eq_false hc) ?_;repeat refine a7 (decide_eq_false hc) ?_
  refine a7 (decide_eq_false hv) ?_;repeat refine a7 (decide_eq_false hv) ?_
  refine fK _ off 3 ?_;refine a8 1 ⟨_,Z,Z,Z,?_⟩;rw[hF];simp only[ja,if_true,if_false,reduceIte,Nat.reduceEqDiff,PR.map,hc,hv];exact⟨_,Z,Z⟩):g:=h
theorem Se (a:g:=by
  obtain⟨Rt,lo,up,dty,dex,DY,D1,Ic,wi,Nw,rfl⟩:=hd;obtain⟨k1,m1,n1,a1,f1,rfl⟩:=D1.cZ;obtain⟨k2,m2,n2,a2,f2,rfl⟩:=Ic.cZ;obtain⟨k3,m3,n3,a3,f3,rfl⟩:=wi.cZ;obtain⟨k4,m4,n4,x4,u4,t4,l4,d4,rfl⟩:=Nw.eight;exact RG (d:=d) (by rw[j6,hh];simp only[h7,h8,h9,if_true,if_false,Bool.false_eq_true];exact e4) ⟨Rt,_,_,_,_,DY,D1,Ic,wi,Nw,Z⟩):g:=a
theorem Sf (a:g:=by
  obtain⟨Rt,lo,up,dty,dex,DY,D1,Ic,wi,Nw,rfl⟩:=hd;obtain⟨k1,m1,n1,a1,f1,rfl⟩:=D1.cZ;obtain⟨k2,m2,n2,a2,f2,rfl⟩:=Ic.cZ;obtain⟨k3,m3,n3,a3,f3,rfl⟩:=wi.cZ;obtain⟨k4,m4,n4,x4,u4,t4,l4,d4,rfl⟩:=Nw.eight;exact RG (d:=d) (by rw[j6,hh];simp only[h7,h8,if_true,if_false,Bool.false_eq_true];exact e4) ⟨Rt,_,_,_,_,DY,D1,Ic,wi,Nw,Z⟩):g:=a
theorem Sg (a:g:=by
  obtain⟨Rt,lo,up,dty,dex,DY,D1,Ic,wi,Nw,rfl⟩:=hd;obtain⟨k1,m1,n1,a1,f1,rfl⟩:=D1.cZ;obtain⟨k2,m2,n2,a2,f2,rfl⟩:=Ic.cZ;obtain⟨k3,m3,n3,a3,f3,rfl⟩:=wi.cZ;obtain⟨k4,m4,n4,x4,u4,t4,l4,d4,rfl⟩:=Nw.eight;exact RG (d:=d) (by rw[j6,hh];simp only[h7,if_true];exact e4) ⟨Rt,_,_,_,_,DY,D1,Ic,wi,Nw,Z⟩):g:=a
theorem n8 (a:g:=by
  refine cU.drop 0 ?_ ?_ ?_ ?_
  ·exact Z
  ·exact Z
  ·exact Z
  refine cU.now Z ⟨Z,?_⟩;rw[K5];rfl):g:=a
theorem Bo (a:g:=by
  rw[Op.equalIn,Sem.run_bind,run_underlying hu,Result.andThen_ok];rfl):g:=a
theorem Yf (a:g:=by
  refine E4 F7 s gf om hs ?_;refine bZ Z (bZ Z (a6 ⟨om,hle⟩ ?_));rw[hsl];refine xZ _ htl ?_;apply aZ<;>intro h2
  ·refine gQ ?_ Z;rw[x5,nM,if_pos h2];rfl
  ·refine ic _ htl ?_;apply aZ<;>intro h3
   ·refine gQ ?_ Z;rw[x5,nM,if_neg (by rw[h2];simp),if_pos h3];rfl
   ·refine ie _ htl ?_;apply aZ<;>intro h4
    ·refine gQ ?_ Z;rw[x5,nM,if_neg (by rw[h2];simp),if_neg (by rw[h3];simp),if_pos h4];rfl
    ·refine gQ ?_ Z;rw[x5,nM,if_neg (by rw[h2];simp),if_neg (by rw[h3];simp),if_neg (by rw[h4];simp)];exact⟨0,_,Z⟩):g:=a
theorem Yh (a:g:=by
  repeat refine de ?_
  refine ie x.n hln ?_;repeat refine de ?_
  apply aZ<;>intro h3
  ·have F8:dX x.n=true:=h3;repeat refine de ?_
   refine ie x.tg Vo ?_;repeat refine de ?_
   apply aZ<;>intro h4
   ·have Ru:dX x.tg=true:=h4;have hT2:iL x=true:=by rw[hT,F8,Ru];simp
    repeat refine de ?_
    refine jf x.m (.inr hm) ?_;repeat refine de ?_
    exact a8 0 ⟨Z,by rw[hT2];rfl⟩
   ·have Ru:dX x.tg=false:=h4;repeat refine de ?_
    exact a8 0 ⟨Z,by rw[hT,Ru];simp[*];rfl⟩
  ·have F8:dX x.n=false:=h3;repeat refine de ?_
   exact a8 0 ⟨Z,by rw[hT,F8];simp[*];rfl⟩):g:=a
theorem Yi (a:g:=by
  obtain⟨ρ4,v4',w4,K7,hw4,hv4,RH⟩:=ec (fc:=fc) (b:=b) (df:=df) (cs:=cs) (k:=k) (rest:=[]) hT hF hE Vh XE ((A1 _).trans E5) OX (gB.less (t:=((fr.tm).set e vf).set d v) OY (fun i u hu=>by
   simp only[cY,cB]at hu⊢;by_cases hid:i=d<;>by_cases Bp:i=e<;>simp_all))
  rw[XF]at RH;have ht4:=(OY).mono K7;exact⟨ρ4,w4,_,((x6.trans x7).trans zL).trans K7,hw4.alike F9,fin (((x6.trans x7).trans zL).trans K7) (gB.less (t:=((fr.tm).set e vf).set d v) ht4 (fun i u hu=>by
   simp only[cY,cB]at hu⊢;by_cases hid:i=d<;>by_cases Bp:i=e<;>simp_all)),((Ch.trans Ci).trans D5).trans RH⟩):g:=a
theorem RT (a:g:=by
  repeat' (change jR _ _ _;first|refine cg (by with_reducible assumption) ?_|refine a7 (by with_reducible assumption) ?_|refine aZ (fun _=>?_) (fun _=>?_))
  all_goals exact a8 0 ⟨rfl,rfl,_,rfl⟩):g:=a
theorem Yk (a:g:=by
  obtain⟨ρ4,v4',w4,K7,hw4,hv4,RH⟩:=ec (fc:=fc) (b:=b) (df:=df) (cs:=cs) (k:=k) (rest:=[]) hT hF hE os2 gs2 ((A2 _).trans RI) OX (gB.less (t:=((fr.tm).set d v).set e vf) OY (fun i u hu=>by
   simp only[cY,cB]at hu⊢;by_cases hid:i=d<;>by_cases Bp:i=e<;>simp_all))
  rw[hd2]at RH;have ht4:=(OY).mono K7;exact⟨ρ4,w4,_,((x6.trans x7).trans zL).trans K7,hw4,fin (((x6.trans x7).trans zL).trans K7) (gB.less (t:=((fr.tm).set d v).set e vf) ht4 (fun i u hu=>by
   simp only[cY,cB]at hu⊢;by_cases hid:i=d<;>by_cases Bp:i=e<;>simp_all)),((Ch.trans Ci).trans D5).trans RH⟩):g:=a
theorem OV (h:g:=by
  split at h
  ·rename_i t q e;obtain⟨rfl,d,hd,rfl⟩:=h;exact k1 t d q e hd
  ·rename_i off er e;obtain⟨q,rfl,rfl⟩:=h;exact k2 off er q e):g:=h
theorem Si (a:g:=by
  refine a8 1 ⟨_,Z,Z,Z,?_⟩;rw[hF];simp only[ja,if_true,if_false,reduceIte,Nat.reduceEqDiff,PR.map,e1];exact⟨q,Z,Z⟩):g:=a
theorem Ym (a:g:=by
  by_cases h0:n*te.size=0
  ·have hm0:∀f:Nat->Value,Array.map f (Array.range 0)= #[]:=fun _=>Array.eq_empty_of_size_eq_zero sm;simp only[h0,hm0]at If;simp only[Instr.buildSlice,Sem.run_bind,ed hT ht,hd,Result.andThen_ok,fO hT hte,h0,if_neg (by omega:¬0>2^24),if_true,Sem.run_pure,hm0,If,iz]
  ·simp only[Instr.buildSlice,Sem.run_bind,ed hT ht,hd,Result.andThen_ok,fO hT hte,if_neg (by omega:¬n*te.size>2^24),if_neg h0,hz,Sem.run_pure,If,iz]):g:=a
theorem E0 (a:g:=by
  rcases hb with⟨rfl,rfl⟩|⟨b2,o2,c2,rfl⟩<;>rcases hb' with⟨rfl,rfl⟩|⟨b2',o2',c2',rfl⟩;all_goals
   repeat first|refine a7 (kx _) ?_|refine a7 (oJ _) ?_|refine a7 (ry hDD) ?_
   refine cd.loop ?_;exact afU):g:=a
theorem Np (a:g:=by
  repeat refine de ?_
  intro b;refine a6 Z (a6 ⟨Z,Z,by simp,Nat.le_refl _,hg _ (Nat.le_of_ble_eq_true Z)⟩ ?_);refine a7 Z (a7 (hf _) ?_);refine⟨i+1,hi',by show s.length-(i+1)<s.length-i;omega,?_,Z,Z⟩;show Gz 0 [(0,cn s),(3,cn zI),(4,Wg (34::(s.take (i+1)).flatMap qc)),(5,b5 (i+1:Nat))] (Wh (34::(s.take (i+1)).flatMap qc)) [] .none _ _;rw[hnx,e];exact Yt (r:=acc) (cs:=[92,s[i]]) Z Z Z Z (int_eq (cp om))):g:=a
theorem Yo (h:g:=by
  by_cases zG:l1.b=l.b
  ·rcases RM _ _ _ h1 g1 zG with e1|e1
   ·rcases RM _ _ _ h2 g2 (he▸zG)with e2|e2
    ·exact absurd (e1.trans e2.symm) BM
    ·subst e2;cases o1<;>trivial
   ·subst e1;cases o2<;>trivial
  ·have hb1:b≠r:=fun e=>by subst e;rw[hl]at h1;cases h1;exact zG rfl
   have Io:b'≠r:=fun e=>by subst e;rw[hl]at h2;cases h2;exact zG he
   rw[c8,if_neg hb1]at g1;rw[c8,if_neg Io]at g2;exact h.sep _ _ _ _ _ _ h1 h2 he g1 g2 BM):g:=h
theorem Sk (a:g:=by
  repeat' (first|exact tv|exact rfl|exact Nat.le_refl _|exact(x8 If om rfl).1|exact(x8 If om rfl).2|(simp only[rows,List.length_map,List.length_cons];omega)|refine bZ rfl ?_|refine And.intro ?_ ?_)):g:=a
theorem Sl (h:g:=by
  intro n;induction n with
  |zero=>intro e k h;cases e<;>exact⟨Nat.zero_le _,h⟩
  |succ n ih=>
   intro e k h;cases e with
   |nil=>exact h.elim
   |cons x r=>
    obtain⟨h1,h2⟩:=ih r _ h;exact⟨Nat.succ_le_succ h1,h2⟩):g:=h
theorem O0 (a:g:=by
  rcases hl.cS with rfl|⟨b1,o1,c1,rfl⟩<;>rcases hk.cS with rfl|⟨b2,o2,c2,rfl⟩<;>exact fitAll):g:=a
theorem Vp (h:g:=by
  rename_i off er e;obtain⟨q,rfl,rfl⟩:=h;exact k2 off er q e):g:=h
theorem Vq (b:g:=by
  repeat first|refine a7 (oJ _) ?_|refine a7 (kx _) ?_|refine a7 (mV _) ?_
  refine cd.loop ?_;refine zM n ih args a a' om om ha Vs ?_;refine a8 0 ⟨Z,Z⟩):g:=b
theorem Yq (h:g:=by
  obtain⟨m,h1,h2⟩:=cA hk;obtain⟨x,D2,h2⟩:=cA h2;obtain⟨v,ady,h2⟩:=cA h2;obtain⟨h3,h4⟩:=he _ _ h1;obtain⟨F8,Ru⟩:=he _ _ D2;obtain⟨adz,adA⟩:=he _ _ ady;obtain⟨oK,dC,k1,k2,k3,k4⟩:=zN h Ru adA h2;exact .val ⟨_,oK,Φ,ρ,dC,k1,⟨Fz.le_refl _,fun _ _=>Z,om⟩,k3,x9,by simp only[j8,h3,F8,adz];rw[k4];rfl⟩):g:=h
theorem Yr (h:g:=by
  have h':=h.move e2 e3;cases r with
  |ret v=>
   obtain⟨r,g1,g2⟩:=Cj (Φ0:=Φ) (ρ0:=ρ) (m0:=σ.length) e2 e5 h' e4;refine⟨n,r,?_,g2⟩;unfold nT;rw[k3];simp only[e1,eG];rw[(e2.ps h.ps).1]at g1;exact g1
  |eH v=>
   refine⟨n,.eH (erase dk v) fr (c6 dk ps) dC,?_,.eH v du dk oK dC tm df ps fr e5 e2 h' e4 Z⟩;unfold nT;rw[k3];simp only[e1,eG,(e2.ps h.ps).1]):g:=h
theorem D6 (a:g:=by
  exact⟨v,h5,h6,by simp only[j8,h3];exact h7⟩):g:=a
theorem Ys (a:g:=by
  have hH2:mN ⟨mp,lY,nL⟩=mT mp [] lY:=by rw[hH,if_neg om]
  refine cm ?_;refine lH mp om ?_;refine a7 (by rw[hp'];rfl) ?_;repeat refine de ?_
  refine abI (fun n hn'=>?_);have hb3:decide (4096<Int.ofNat n)=false:=decide_eq_false (by simp only[Int.ofNat_eq_natCast];omega);repeat refine de ?_
  refine cd.loop ?_;exact a8 0 ⟨Z,by rw[hH2,hmi];rfl⟩):g:=a
theorem Vt (a:g:=by
  exact .pick 6 [0,1,2,3,4,5,7] ⟨Z,Z,Z,Z,tv⟩ Z Z Z Z Z dc ⟨Z,Z,Z,Z,Z,Z,Z,Z,Gb l _ t _,lp _ _ (iM _),Z,Z,Z,Z,tv⟩):g:=a
theorem O1 (h:g:=by
  repeat' split at h
  all_goals first|cases h;done|(unfold val at h;cases h;exact .inl ⟨_,_,rfl⟩)):g:=h
theorem q5 (h:g:=by
  unfold apart;rw[hg1,hg2];simp only[sg aaa,sg (fun e=>adx e.symm),Bn];cases hfm:st.fm.get fm1 with
  |none=>rfl
  |some ms=>
   simp only[Bool.not_false,Bool.true_and];rw[Bool.not_eq_true'];refine List.any_eq_false.2 fun x hx=>?_;intro e;have e:=Nat.eq_of_beq_eq_true e;subst e;exact(h.real.dP i1 _ _ _ _ _ _ ms _ If hg1 hfm hx (fun e=>aaa e.symm)).2 i2 _ RD Z Z):g:=h
theorem Nq (a:g:=by
  refine oZ Z _ labels hl hlen (fun j hj d hd K hk=>?_) hK;have hvj:=hw.var _ (List.getElem_mem hj);have htj:=hw.ty _ (List.getElem_mem hj);generalize labels[j]=l at hvj htj hd;obtain⟨ln,lv,lt,lo⟩:=l;simp at hvj htj;obtain⟨rfl,rfl⟩:=htj;subst hvj;have hd:eZ cV d:=hd;rcases w9 hd with rfl|⟨b,o,c,rfl⟩;all_goals exact aao):g:=a
theorem D3 (a:g:=by
  exact a8 0 ⟨Z,by rw[hR];rfl⟩):g:=a
theorem Yu (b:g:=by
  exact .pick 6 [0,1,2,3,4,5,8] ⟨Z,Z,Z,Z,tv⟩ Z Z Z Z Z dc ⟨Z,Z,Z,Z,Z,Z,NA 8 r (⟨(R.tok q).text,k,m,n,a,fl,false,[],.ci⟩:FE),Z,Gb l _ t _,lp _ _ (iM _),Z,Z,E8 x0 r (⟨(R.tok q).text,k,m,n,a,fl,false,[],.ci⟩:FE),jv _ _ _,tv⟩):g:=b
theorem ab7 (h:g:=by
  cases h with
  |nil=>exact⟨[],.nil,.inl ⟨rfl,rfl⟩⟩
  |ps h=>exact⟨_,h,.inr ⟨_,_,_,rfl⟩⟩):g:=h
theorem RZ (h:g:=by
  induction l generalizing els with
  |nil=>cases h;rfl
  |cons a l ih=>cases h with|cons h1 h2=>simp[ih h2]):g:=h
theorem Yv (a:g:=by
  obtain⟨ρ3,v3',w3,zL,OX,adB,D5⟩:=ec (fc:=fc) (b:=b) (df:=df) (cs:=cs) (k:=k) (rest:=[]) hT hF hE Vh XE ((A1 _).trans E5) hw2 ht2;rw[XF]at D5;exact⟨ρ3,w3,_,(x6.trans x7).trans zL,OX.alike F9,fin ((x6.trans x7).trans zL) (ht2.mono zL),(Ch.trans Ci).trans D5⟩):g:=a
theorem RE (h:g:=by
  repeat' split at h
  all_goals first|cases h;done|(unfold val at h;cases h)):g:=h
theorem Yw (h:g:=by
  split at h
  ·rename_i l q e;obtain⟨e2,d,hd,rfl⟩:=h;have:cs'=xa R q:=by injection e2 with e3;injection e3
   subst this;exact h1 l d q e hd
  ·rename_i off er e;obtain⟨q,e2,rfl⟩:=h;have:cs'=xa R q:=by injection e2 with e3;injection e3
   subst this;exact h2 off er q e):g:=h
theorem Yx (a:g:=by
  have Io:decide (64<Int.ofNat els.length)=true:=by rw[Bm];exact decide_eq_true (by simp only[Int.ofNat_eq_natCast];omega)
  refine cm ?_;refine lH mp om ?_;refine a7 (by rw[hp'];rfl) ?_;repeat refine de ?_
  exact a8 0 ⟨Z,by rw[hH,if_pos (.inr h64)];rfl⟩):g:=a
theorem Nr (b:g:=by
  rename_i i v ob j o bl a;rw[<-hs.erase hv];refine .obj ho hm (hs.ok hv) (hk.mono hs) (by rw[qn hk hs,hmo,hs.erase hv]) ?_ hoe;cases j with
  |some j=>exact⟨Nat.lt_of_lt_of_le hj.1 hs.len,by rw[hs.vA _ hj.1];exact hj.2.1,hj.2.2⟩
  |none=>exact hs.le.Rv _ _ hj):g:=b
theorem R0 (h:g:=by
  cases hb:Φ st.n with
  |none=>rfl
  |some o=>exact absurd (h.flt hb) (Nat.lt_irrefl _)):g:=h
theorem R2 (a:g:=by
  obtain⟨k,m,n,xx,num,ty,lb,kd,rfl⟩:=hd.eight;refine a8 1 (dQ e hd)):g:=a
theorem YA (a:g:=by
  show db ty R sep fin _ R.ts.length [] p=db ty R sep fin _ f (l++[((R.tok q).text,t,false)]) q3;rw[he,db];simp only[hk,ne_eq,not_true,if_false,zH,h2,Bool.true_and,Bool.and_false,Bool.false_eq_true,hn,e1,h3,Bn]<;>rfl):g:=a
theorem YB (a:g:=by
  refine a7 h2 ?_;apply aZ<;>intro h3
  ·exact cg h3 (cg h3 (eL (by simp only[isWord,h3,Bool.true_or,Bool.or_true]) hk))
  ·exact a7 h3 (a7 h3 (eL (by simp only[isWord,h1,h2,h3,Bool.false_or]) hk))):g:=a
theorem VA (a:g:=by
  unfold gy;rcases hl.cS with rfl|⟨b1,o1,c1,rfl⟩<;>obtain⟨b2,o2,c2,d1,rfl⟩:=hk.one<;>exact fitAll):g:=a
theorem YD (a:g:=by
  rw[ht]at hr;obtain⟨k,t,rfl⟩:=hr;refine iA.intro ?_;have he:=Iq ht;apply aZ<;>intro h9
  ·repeat refine cf ?_
   refine a8 0 ⟨Z,Z,?_⟩;rw[Vy h' hl ht hp];rfl
  ·exact absurd (l3 h9) he):g:=a
theorem YE (a:g:=by
  show db ty R sep fin _ R.ts.length [] p=db ty R sep fin _ f (l++[((R.tok q).text,t,true)]) q3;rw[he,db];simp only[hk,ne_eq,not_true,if_false,zH,h2,Bool.and_self,Bool.true_and,if_true,hn,e1,h3,Bn]<;>rfl):g:=a
theorem Fa (a:g:=by
  refine cm ?_;exact a8 0 ⟨Z,Z⟩):g:=a
theorem YF (a:g:=by
  show db ty R sep fin _ R.ts.length [] p=db ty R sep fin _ f (l++[((R.tok q).text,t,false)]) q3;rw[he,db];simp only[hk,ne_eq,not_true,if_false,zH,Bool.false_and,Bool.false_eq_true,hn,e1,h3,Bn]<;>rfl):g:=a
theorem YG (a:g:=by
  obtain⟨al2,σ3,g1,g2,g3,g4,g5⟩:=s8 q1 q3.real q3.df;rw[acn]at g1 g5;exact⟨_,.ret (.d (.bool false)),_,Φ2,Vz,σ3,red _ (by simp only[ek,g1,g2];rfl),by rw[g4];exact xS,g5,.d (.bool _),g3⟩):g:=a
theorem YH (a:g:=by
  cases hq:gg ops D xb with
  |nil=>rfl
  |cons t l=>
   have:t∈gg ops D xb:=by rw[hq];simp
   rw[nU]at this;obtain⟨j,hj,hd,_⟩:=this;rw[E9 j (hp.lt j (by rw[tW];simp[hj]))]at hd;cases hd):g:=a
theorem YJ (h:g:=by
  refine cj ?_;apply aZ<;>intro h
  ·exact cg h (cg h (eL (by simp only[iT,h,Bool.true_and]) hk))
  ·exact a7 h (a7 h (eL (by simp only[iT,h,Bool.false_and]) hk))):g:=h
theorem K8 (a:g:=by
  simp only[Int.ofNat_eq_natCast]at this;omega):g:=a
theorem YK (h:g:=by
  rename_i hk;obtain⟨x,hx,rfl⟩:=fH h;obtain⟨a,b,c,d⟩:=ih (p+1) x q om (w.step h2 hk) hx;exact⟨.one (.one (by simp[K9])) a,by rw[op1,gS];simp only[cy,cQ];omega,om,d⟩):g:=h
theorem Ge (a:g:=by
  exact RR acc (RS hp hl) Z):g:=a
theorem YL (h:g:=by
  refine cj ?_;apply aZ<;>intro h
  ·exact cg h (cg h (eL (by simp only[isDigit,h,Bool.true_and]) hk))
  ·exact a7 h (a7 h (eL (by simp only[isDigit,h,Bool.false_and]) hk))):g:=h
theorem YM (h:g:=by
  refine cj ?_;apply aZ<;>intro h
  ·exact cg h (cg h (eL (by simp only[k9,h,Bool.true_and]) hk))
  ·exact a7 h (a7 h (eL (by simp only[k9,h,Bool.false_and]) hk))):g:=h
theorem Fe (a:g:=by
  simp only[Int.ofNat_eq_natCast];omega):g:=a
theorem YN (h:g:=by
  cases h:Nat.beq x.toNat y.toNat with
  |true=>
   have:x=y:=UInt8.toNat_inj.1 (Nat.eq_of_beq_eq_true h);subst this;simp[ih]
  |false=>
   have:x≠y:=fun e=>Nat.ne_of_beq_eq_false h (by rw[e]);simp[this]):g:=h
theorem La (a:g:=by
  show R.ts.length-q3<R.ts.length-q;omega):g:=a
theorem YO (a:g:=by
  unfold Instr.typeAssert;rw[Sem.run_bind,hu,Result.andThen_ok];split<;>first|(rename_i e;exact absurd e (hd _))|(rename_i e _;exact absurd e (hd _))|skip
  all_goals first|rfl|(rename_i e;cases e)|simp_all):g:=a
theorem YP (a:g:=by
  obtain⟨c,h4,h5,h6⟩:=Lb ρ _ ps z _ (qo Φ m h3).1 hp hk;rw[jk ρ h3]at h6;refine⟨_,h4,.agg h5,?_⟩;unfold xc;simp only[hti,hd,h1,h2,h6];simp[val,erase,List.toArray]):g:=a
theorem YQ (a:g:=by
  refine⟨_,_,Φ,_,_,Vg,by rw[hlen];exact la Φ ρ σ.length st.n,r1,.ms (by rw[hlen];omega),?_⟩;simp only[erase,Nat.zero_mul];rw[show jM ρ σ.length st.n σ.length=st.n from if_pos rfl]):g:=a
theorem YR (a:g:=by
  repeat refine ch ?_
  refine gI Z _ _ (ll.ps hf) om (fun x j hj _ e2=>fun hk=>Gf x (by rw[<-e2,ho _ (List.getElem_mem hj)];exact hk)) ?_;exact a8 0 ⟨Z,Z⟩):g:=a
theorem R5 (a:g:=by
  rw[<-gs,<-Ir,<-Ir,Nat.zero_add,Nat.zero_add];rfl):g:=a
theorem XJ (a:g:=by
  exact Ck (by rw[j6,hh];simp only[h7,h8,h9,if_true,if_false,Bool.false_eq_true];exact e4)):g:=a
theorem wk (h:g:=by
  exact h.sep _ _ _ _ _ _ h1 h2 he g1 g2 BM):g:=h
theorem w5 (a:g:=by
  unfold mU at hB;split at hB
  ·split at hB
   ·dsimp only at hB;split at hB
    ·rename_i es' els hr;rw[ck]at hr;exact⟨_,_,hr⟩
    ·exact hB.elim
   ·exact hB.elim
  ·exact hB.elim):g:=a
theorem YS (a:g:=by
  split at h2
  ·obtain⟨v,h5,h6,h7⟩:=O3 (Φ:=Φ) (m:=σ.length) (ρ:=ρ) _ _ _ _ _ h2;exact⟨v,h5,h6,by simp only[j9,cl,erase,cz,h7];rfl⟩
  ·exact h2.elim):g:=a
theorem XK (a:g:=by
  exact Ck (by rw[j6,hh];simp only[h7,h8,if_true,if_false,Bool.false_eq_true];exact e4)):g:=a
theorem YT (a:g:=by
  repeat' (first|exact tv|exact rfl|exact Nat.le_of_ble_eq_true rfl|refine bZ rfl ?_|refine cc tX (Is e0 r) ?_|refine a6 (RV r) ?_|refine And.intro ?_ ?_)):g:=a
theorem R6 (h:g:=by
  cases h;exact⟨om,fun h=>om,fun h=>om⟩):g:=h
theorem YV {P:Prop} (a:P:=by
  rcases l6 (P:=P) D1 e1 with⟨rfl,rfl,rfl⟩|⟨yl,rfl,hls,hlr⟩
  ·rw[cb _ (Sem.run_pure (P:=P) (w:=w) _)];rfl
  ·simp only;rw[cb _ (hlr _ _ _ h1)];rfl):P:=a
theorem X9 (a:g:=by
  unfold mU at hA;split at hA
  ·split at hA
   ·dsimp only at hA;split at hA
    ·rename_i cs hr;rw[ck]at hr;exact⟨_,hr⟩
    ·exact hA.elim
   ·exact hA.elim
  ·exact hA.elim):g:=a
theorem YW (a:g:=by
  repeat' (first|exact tv|exact rfl|exact Nat.le_of_ble_eq_true rfl|refine bZ rfl ?_|refine cc jz (It x0 xr) ?_|refine a6 (RX xr) ?_|refine And.intro ?_ ?_)):g:=a
theorem YX (h:g:=by
  have Bq:=(lq hgx).resolve_left (by intro e;cases e);have Vr:b≠x:=by intro e';subst e';rw[hg]at Bq;cases Bq
  exact(h.sep _ _ _ _ _ _ hl D7 zG.symm hg Bq Vr).elim):g:=h
theorem YY (c:g:=by
  cases a<;>first|(exfalso;exact h3 _ _ rfl)|(exfalso;exact h4 _ _ _ rfl)|(cases b<;>first|rfl|(exfalso;exact h1 _ _ _ _ ⟨rfl,rfl⟩)|(exfalso;exact h2 _ _ ⟨rfl,rfl⟩))):g:=c
theorem NC (h:g:=by
  cases h;exact⟨Nat.le_refl _,hp⟩):g:=h
theorem YZ (h:g:=by
  rw[List.map_append,List.nodup_append];refine⟨h,by simp,?_⟩;intro a ha b hb e;simp only[List.map_cons,List.map_nil,List.mem_singleton]at hb;subst e;subst hb;exact zH (hX▸ha)):g:=h
theorem Y0 (a:g:=by
  repeat refine a7 h2 ?_
  refine eL ?_ hk;have Ie:¬(c::r).length<=32:=Nat.not_le_of_lt (Iv h2);simp only[cK,decide_eq_false Ie,Bool.and_false,Bool.false_and]):g:=a
theorem Y1 (a:g:=by
  repeat refine a7 h2 ?_
  refine eL ?_ hk;have Ie:¬(c::r).length<=32:=Nat.not_le_of_lt (Iv h2);simp only[dX,decide_eq_false Ie,Bool.and_false,Bool.false_and]):g:=a
theorem Y2 (a:g:=by
  unfold gy;rcases hl.cS with rfl|⟨b1,o1,c1,rfl⟩<;>obtain⟨b2,o2,c2,d1,d2,d3,rfl⟩:=hk.three<;>obtain⟨b3,o3,c3,d0,rfl⟩:=ht.nN<;>exact fitAll):g:=a
theorem Y3 (b:g:=by
  obtain⟨aew,adC,aty,aex,aey,agd⟩:=a;cases adC with
  |indexAddr t x i=>
   simp only[j8]at k3⊢;split at k3
   ·exact VB k3 RW
   ·cases k3
  |_=>cases hia):g:=b
theorem XM (h:g:=by
  cases h with
  |nil=>exact .inl ⟨rfl,rfl⟩
  |ps h=>exact .inr ⟨_,_,_,_,rfl,h⟩):g:=h
theorem ND (b:g:=by
  exact⟨a,om,om,d⟩):g:=b
theorem Y6 (a:g:=by
  intro q3;refine a8 1 ?_;rw[hF];simp only[hk,ne_eq,not_true,if_false,zH,h2,Bool.true_and,Bool.and_false,Bool.false_eq_true,hn,e1,h3,Bn];exact⟨q3,Z,Z⟩):g:=a
theorem RN (a:g:=by
  exact a8 0 ⟨Z,Z,O4 hp⟩):g:=a
theorem XN (a:g:=by
  exact Ck (by rw[j6,hh];simp only[h7,h8,h9,if_false,Bool.false_eq_true])):g:=a
theorem Y7 (a:g:=by
  intro y hy;rcases List.mem_append.1 hy with hy|hy
  ·exact hv y hy
  ·simp only[List.mem_singleton]at hy;subst hy;first|exact Nat.le_refl _|exact Nat.zero_le _):g:=a
theorem O2 (h:g:=by
  cases h with
  |nil=>exact .inl rfl
  |ps h=>cases h;exact .inr ⟨_,_,_,rfl⟩):g:=h
theorem Iw (a:g:=by
  exact a8 0 ⟨Z,NB⟩):g:=a
theorem Y8 (h:g:=by
  obtain⟨u1,s1,rfl⟩:=Fc;simp only[execOp,gT];obtain⟨w',e1,e2,rfl,_⟩:=D8 hT hw (he _ _ ha) (he _ _ hb) (he _ _ hc) h;exact Ix e1 e2):g:=h
theorem Vv (h:g:=by
  revert h1;generalize x.ps=xp;intro h1;cases h1 with
  |nil=>exact⟨0,rfl,.inl ⟨rfl,rfl⟩⟩
  |ps h=>exact⟨_,rfl,.inr ⟨_,_,_,_,rfl,h,h.len⟩⟩):g:=h
theorem Y9 (a:g:=by
  intro q3;refine a8 1 ?_;rw[hF];simp only[hk,ne_eq,not_true,if_false,zH,h2,Bool.and_self,Bool.true_and,if_true,hn,e1,h3,Bn];exact⟨q3,Z,Z⟩):g:=a
theorem Za (h:g:=by
  cases j with
  |zero=>
   obtain rfl:i=i':=by simpa using h
   exact⟨o,Z,by rw[<-ck,hσ,fh _ _ hc],lp _ _ hc⟩
  |succ j=>simp at h):g:=h
theorem Zb (a:g:=by
  intro q2;refine a8 1 ?_;rw[hF];simp only[hk,ne_eq,not_true,if_false,zH,h2,Bool.true_and,Bool.and_false,Bool.false_eq_true,hn];exact⟨q2,Z,Z⟩):g:=a
theorem Ze (a:g:=by
  rw[iB,decide_eq_false h1,iB,decide_eq_false h2,iB,decide_eq_false h3,iB,decide_eq_false h4,iB,decide_eq_false h5];rfl):g:=a
theorem Zf (a:g:=by
  refine a8 1 ⟨_,Z,Z,Z,?_⟩;rw[hF];simp only[ja,if_true,if_false,reduceIte,Nat.reduceEqDiff,PR.map,e1];exact⟨Z,_,.mk .nil hd,Z⟩):g:=a
theorem Zg (a:g:=by
  show cO.ret (o5 (i+1) b els (.ms (i+1) 5 0 n n))=_;rw[o5,kz];show cO.ret (.d (.ps b (0*5) 5 n ((els.drop 0).take n)))=_;rw[eT _ _ hn]):g:=a
theorem Ns (a:g:=by
  cases hq:fv q with
  |none=>rw[hq]at h3;cases h3
  |some y=>
   rw[hq]at h3;cases h3;have:=ih q h2 y.1 y.2 hq;simp only[List.length_cons];omega):g:=a
theorem Zh (a:g:=by
  refine a8 1 ?_;rw[hF];simp only[hk,ne_eq,not_true,if_false,zH,h2,Bool.true_and,Bool.and_false,Bool.false_eq_true,hn,e1];exact⟨q1,Z,Z⟩):g:=a
theorem Zi (h:g:=by
  refine step_lone_go ?_;rw[mW ho hw (.inl hd)];have hr:(eg b tm df (.inRegion ops (i::rest)::k)).roundOf=none:=hd;simp[stepG.apply,h,hr,hn]):g:=h
theorem Zj (a:g:=by
  intro q3;refine a8 1 ?_;rw[hF];simp only[hk,ne_eq,not_true,if_false,zH,Bool.false_and,Bool.false_eq_true,hn,e1,h3,Bn];exact⟨q3,Z,Z⟩):g:=a
theorem Vw (a:g:=by
  refine a8 0 ⟨Z,gR fun e=>?_⟩;have:els.length≠wl.length:=fun e=>by rw[e]at hc;simp at hc
  rw[e1,e2,e]at this;exact this Z):g:=a
theorem Zk (a:g:=by
  refine a7 (by rw[R1 Vo];rfl) ?_;refine a7 (by rw[R1 Vo];rfl) ?_;exact⟨i+1,by show 1<=i+1;omega,iK,.eS,Z,Z⟩):g:=a
theorem XO (c:g:=by
  rcases Iy with k|⟨j,o,hj,hl,e⟩
  ·exact k a
  ·exact b j o hj hl e):g:=c
theorem rl (a:g:=by
  exact iZ (wO c he _ _)):g:=a
theorem Zl (a:g:=by
  intro q2;refine a8 1 ?_;rw[hF];simp only[hk,ne_eq,not_true,if_false,zH,h2,Bool.and_self,Bool.true_and,if_true,hn];exact⟨q2,Z,Z⟩):g:=a
theorem Zn (h:g:=by
  rename_i gT;rw[gT]at h3 hm;cases h1;cases h3;first
   |exact h.R3 hm.1 hm.2
   |exact .bp (by rw[hlen];omega)
   |(simp only[erase,Gg];rfl)):g:=h
theorem Zo (h:g:=by
  split at h
  ·rename_i u hu;unfold val at h;cases h;simp only[execOp,gT];exact⟨ρ,_,w,.inl Z,Ren.le_refl _,hw,he _ _ hu⟩
  ·cases h):g:=h
theorem oy (a:g:=by
  refine cd.loop ?_;exact a8 0 ⟨Z,Z⟩):g:=a
theorem Zp (b:g:=by
  repeat refine a7 h1 ?_
  refine eL ?_ hk;have D2:s=[]:=List.eq_nil_of_length_eq_zero (by have:=Iv (a:=1) h1;omega);subst D2;rfl):g:=b
theorem XP (a:g:=by
  simp only[List.length_cons,List.length_nil]at e1;exact⟨om,e2⟩):g:=a
theorem Zq (h:g:=by
  rw[Gh _ zG];rw[c8]at Vi;split at Vi
  ·rename_i e;subst e;rw[hl]at hb;cases hb;exact absurd rfl zG
  ·exact h.obj _ _ _ hb Vi):g:=h
theorem Zr (h:g:=by
  intro s h;rw[List.getElem?_append_right om,show a+s-A.length=s from om,List.getElem?_append_left h,List.getElem?_eq_getElem h]):g:=h
theorem Zs (a:g:=by
  refine a8 1 ?_;rw[hF];simp only[hk,ne_eq,not_true,if_false,zH,h2,Bool.and_self,Bool.true_and,if_true,hn,e1];exact⟨q1,Z,Z⟩):g:=a
theorem XQ (h:g:=by
  repeat' split at h
  all_goals first|cases h;done|exact key h (.inl rfl)):g:=h
theorem Zt (h:g:=by
  split at h
  ·obtain⟨rfl,d,h2,rfl⟩:=h;exact⟨_,Z,Z,Z,h'⟩
  ·obtain⟨q,rfl,rfl⟩:=h;exact⟨_,Z,Z,Z,h'⟩):g:=h
theorem Zu (h:g:=by
  obtain⟨dk,w',VC,Rw,cs',h4,h5,h6,h7,h8⟩:=h;exact⟨dk,w',VC,Rw,cs',hle.trans h4,h5,h6,DY.trans h7,.of_steps xS h8⟩):g:=h
theorem Zv (a:g:=by
  refine eL ?_ hk;have h4:(c::r).all isWord=true:=h4;simp only[cK,decide_eq_true Ie,h3,h4,List.head?_cons,Option.any_some];simp):g:=a
theorem XR (a:g:=by
  exact BN (by simp only[Ff,fj,cu,h4,if_true,e4,PR.map])):g:=a
theorem Zw (a:g:=by
  intro q2;refine a8 1 ?_;rw[hF];simp only[hk,ne_eq,not_true,if_false,zH,Bool.false_and,Bool.false_eq_true,hn];exact⟨q2,Z,Z⟩):g:=a
theorem Zx (a:g:=by
  rw[List.take_add_one,hgi];simp only[List.all_append,hp,Option.toList,List.all_cons,List.all_nil,Bool.and_true,Bool.true_and];simpa using h2):g:=a
theorem XS (a:g:=by
  simp only[List.append_assoc]<;>first|exact rfl|exact⟨rfl,rfl⟩):g:=a
theorem aab (h:g:=by
  subst h;exact cU.drop 1 Z (by show(fW 1 (dp R q)&&mJ 1 tl 0)=true;rw[mJ];rfl) Z (cU.now Z ⟨_,Z,Z,Z,q,Z,Z⟩)):g:=h
theorem XT (a:g:=by
  exact xe hi.frame.tm (by rw[<-yb Lc];exact hwa)):g:=a
theorem aad (a:g:=by
  rw[VD fun i hi=>Nat.lt_of_lt_of_le (hcs i hi) h3,show Nat.blt 0 fU.length=true by rw[Nat.blt_eq];exact Nat.lt_of_lt_of_le h0 h3];rfl):g:=a
theorem aaf (a:g:=by
  have h1:=RD.length;have h2:=Gi hf;have h3:=(NF te.zero n).1;simp only[Array.length_toList]at h1;rw[<-h1,h2,h3,hzl]):g:=a
theorem XU (a:g:=by
  simp only[Int.ofNat_eq_natCast];rw[wrap64 om om];omega):g:=a
theorem aag (a:g:=by
  refine cd.loop ?_;refine cU.drop 7 ?_ ?_ ?_ ?_
  ·exact Z
  ·exact nP Z Rx Io hL
  ·exact Z
  exact cU.now Z ⟨Z,Z⟩):g:=a
theorem aah (a:g:=by
  refine a8 1 ?_;rw[hF];simp only[hk,ne_eq,not_true,if_false,zH,Bool.false_and,Bool.false_eq_true,hn,e1];exact⟨q1,Z,Z⟩):g:=a
theorem aai (h:g:=by
  cases h with
  |cons h1 h2=>
   cases i with
   |zero=>exact .cons hd h2
   |succ i=>exact .cons h1 (ih h2 (i:=i) (by simpa using hi) hd)):g:=h
theorem aaj (h:g:=by
  rw[hdr]at h;have hE:isWord s[gf+et isDigit (s.drop gf)]=false:=hE;simp only[List.head?_cons,Option.any_some,hE]at h;cases h):g:=h
theorem aak (a:g:=by
  intro y hy;rcases List.mem_append.1 hy with hy|hy
  ·exact hv y hy
  ·simp only[List.mem_singleton]at hy;subst hy;exact Nat.le_refl _):g:=a
theorem aal (h:g:=by
  split at h
  ·cases h
  ·rename_i hb;have hb':b≠0:=by rw[vB]at hb;simpa using hb
   cases h;simp[binOp,Op.intDiv,hb']):g:=h
theorem aam (h:g:=by
  induction l generalizing els with
  |nil=>cases h;exact .cons hp .nil
  |cons a l ih=>cases h with|cons h1 h2=>exact .cons h1 (ih h2)):g:=h
theorem aan (h:g:=by
  obtain⟨a,b⟩:=h.dP j es els c e f p ms x (BM j _ hj rfl) hg hm hx hn;exact⟨a,fun k ok hk Ld=>b k ok (BM k _ hk Ld) Ld⟩):g:=h
theorem R8 (a:g:=by
  refine a8 0 ⟨Z,Z,Le hp⟩):g:=a
theorem aaq (a:g:=by
  refine⟨n,x,fr',VC,Rw,ps',dC,du,dk,oK,e1,?_,e3,e4,e5,e6,e7,e8⟩;exact(O5.weaken hf.2).then e2 (Nat.le_refl _)):g:=a
theorem aar (a:g:=by
  rw[hF];simp only[hk,ne_eq,not_true,if_false,zH,h2,Bool.true_and,Bool.and_false,Bool.false_eq_true,hn,e1,h3,if_true,PR.map]):g:=a
theorem aas (h:g:=by
  refine⟨(h.obj i _ hi Z).2,fun j o hj hl e=>?_⟩;obtain⟨h1,h2⟩:=rC hi hj hl;exact h1 (h.inj j i o _ h2 hi hl Z e)):g:=h
theorem aat (a:g:=by
  unfold IntKind.wrap;simp only[IntKind.signed,IntKind.bits];first
   |(show(if _ then _ else _)=_;split<;>omega)
   |(simp;omega)):g:=a
theorem abM (h:g:=by
  induction l generalizing els with
  |nil=>cases h;rfl
  |cons a l ih=>cases h with|cons _ h2=>simp only[List.length_cons,ih h2]):g:=h
theorem Nt (a:g:=by
  simp only[execOp,gT,Instr.alloc];rw[Sem.run_bind];simp only[Sem.run_bind,hz,Result.andThen_ok,newVar,iz,Sem.run_pure]):g:=a
theorem XX (a:g:=by
  exact Ck (by rw[j6,hh];simp only[h7,if_true];exact e4)):g:=a
theorem abN (a:g:=by
  obtain⟨r,h3,h4⟩:=O6 (ρ:=ρ) hk;exact⟨_,h3,.d (.bool _),shape _ (by simp only[h4];rfl) (by rw[h4];simp)⟩):g:=a
theorem abO (h:g:=by
  rename_i hn;obtain⟨a,e,_⟩:=dv h;obtain⟨c,d⟩:=ih (p+1) a q om (w.step h2 hn) e;exact⟨om,d⟩):g:=h
theorem XY (h:g:=by
  cases h;exact⟨om,w.go p _ (b0 h2) om⟩):g:=h
theorem abP (a:g:=by
  unfold gy;rcases hl.cS with rfl|⟨b1,o1,c1,rfl⟩<;>obtain⟨b2,o2,c2,d1,d2,rfl⟩:=hk.two<;>exact fitAll):g:=a
theorem abQ (h:g:=by
  cases hr;cases hx<;>simp only[nO,Option.some.injEq]at h<;>first|cases h;done|(subst h;exact⟨rfl,.int _ _⟩)):g:=h
theorem XZ (h:g:=by
  rcases List.mem_cons.1 hx with rfl|h
  ·simp
  ·simp[ih _ x h]):g:=h
theorem abR (h:g:=by
  induction l generalizing els with
  |nil=>cases h;exact h'
  |cons a l ih=>cases h with|cons h1 h2=>exact .cons h1 (ih h2)):g:=h
theorem Gc (a:g:=by
  refine⟨i+1,hi',iK,.eS,Z,Z⟩):g:=a
theorem X0 (a:g:=by
  exact k2 _ _ _ _ (by rw[xS,e2];rfl) (by show 4<=5;omega)):g:=a
theorem abS (b:g:=by
  have h8:=ee (a:=8) hc;rw[hal]at h8;repeat refine cg hc ?_
  exact a8 0 ⟨Z,by simp[lm,h8,si];rfl⟩):g:=b
theorem abV (h:g:=by
  rename_i gT;rw[gT]at h3 hm;cases h1;cases h3;exact⟨h.R3 hm.1 hm.2,.bp om,by simp only[erase,Gg];rfl⟩):g:=h
theorem Nu (h:g:=by
  have h:s.length<=i:=dq hc;repeat refine a7 hc ?_
  refine n9 ?_ hk;rw[E1 hi hp (fun h'=>om)]):g:=h
theorem abW (a:g:=by
  induction s with
  |nil=>exact Nat.le_refl _
  |cons c r ih=>
   rw[countB];split<;>simp only[List.length_cons]<;>omega):g:=a
theorem abX (a:g:=by
  rw[hF];simp only[hk,ne_eq,not_true,if_false,zH,h2,Bool.and_self,Bool.true_and,if_true,hn,e1,h3,if_true,PR.map]):g:=a
theorem abY (h:g:=by
  cases b<;>first|(simp[nV]at h;done)|skip
  rename_i x';obtain⟨x'⟩:=x';simp only[nV]at h;rw[yc x x' h]):g:=h
theorem abZ (a:g:=by
  exact⟨Vz,w2,tm2,Rw,cs',h4.trans acw,hw2,hf2,h7,(Steps.head NI (h8.trans hs2)).trans (.one re)⟩):g:=a
theorem ab0 (a:g:=by
  refine cg h3 ?_;refine eL ?_ hk;simp only[dX,decide_eq_true Ie,h3,List.head?_cons,Option.any_some];simp):g:=a
theorem ab1 (a:g:=by
  show ey ty R R.ts.length [] (p+1)=ey ty R f (l++[t]) (q1+1);rw[he,ey,e1];simp only[h2,if_true]):g:=a
theorem ab2 (b:g:=by
  exact congrArg (fun x=>some (cN.row 7 x)) (Cm x0 r (⟨(R.tok q).text,k,m,n,a,fl,false,[],.ci⟩:FE))):g:=b
theorem X2 (a:g:=by
  exact⟨v,h5,h6,by simp only[j8,h3,F8];exact h7⟩):g:=a
theorem ab3 (a:g:=by
  rw[h1,List.map_map];congr 2;exact List.map_congr_left fun e _=>by simp only[Function.comp,ke,O8,jH]):g:=a
theorem ab4 (a:g:=by
  rw[hF];simp only[hk,ne_eq,not_true,if_false,zH,Bool.false_and,Bool.false_eq_true,hn,e1,h3,if_true,PR.map]):g:=a
theorem Ny (h:g:=by
  rw[c8]at hx;by_cases Vr:x=b
  ·subst Vr;exact h.lt _ _ hg
  ·rw[if_neg Vr]at hx;exact h.lt _ _ hx):g:=h
theorem ab5 (h:g:=by
  rw[if_neg e2]at hk;rw[hs.vA k (hold k ok hk),hs.vA j (hold j oj hj)]at e;exact h.inj j k oj ok hj hk hlj Ld e):g:=h
theorem Nz (h:g:=by
  refine⟨i+1,⟨om,?_⟩,iK,.eS,Z,Z⟩;rcases hnx with h|h
  ·exact h
  ·rw[hb]at h;cases h):g:=h
theorem X3 (a:g:=by
  simp only[yd,mX,Nat.beq_refl,Bool.and_self]):g:=a
theorem NE (a:g:=by
  refine cU.drop 0 ?_ ?_ ?_ ?_
  ·exact Z
  ·exact Z
  ·exact Z
  refine cU.now Z ⟨Z,?_⟩;rw[ht];rfl):g:=a
theorem ON (a:g:=by
  rw[Rl (w:={w with heap:=w.heap.push (.cells #[.pointer none,.slice none 0 0] T)}) hat]at hg;cases hg):g:=a
theorem ab8 (a:g:=by
  simp only[erase]at q4 w4 q4' w4';simp only[hap,q4,q4',Y4,mY,Nat.beq_refl,Bool.and_self,w4,w4']):g:=a
theorem aca (a:g:=by
  refine a8 1 ?_;rw[hF];simp only[hk,ne_eq,not_false_iff,if_true];exact⟨eu (R.tok q) q,Z,Z⟩):g:=a
theorem acb (a:g:=by
  repeat refine a7 h4 ?_
  refine eL ?_ hk;have h4:(c::r).all isWord=false:=h4;simp[cK,h4]):g:=a
theorem acd (h:g:=by
  cases b<;>first|(simp[nV]at h;done)|skip
  rename_i q;cases q<;>first|rfl|(simp[nV]at h;done)):g:=h
theorem ace (a:g:=by
  refine a8 1 ?_;rw[hF];simp only[hk,ne_eq,not_true,if_false,zH,if_true];exact⟨q+1,Z,Z⟩):g:=a
theorem acf (b:g:=by
  exact congrArg (fun x=>some (cN.row 5 x)) (Sj e0 r [.int .i64 (Int.ofNat k),.str m,.str n,a,fl])):g:=b
theorem YU (h:g:=by
  have hx:=h.real.ox If rfl hg1 hg2 (fun e=>aaa e.symm) (.inr ⟨i2,_,RD,rfl,rfl⟩);exact hx e):g:=h
theorem X4 (a:g:=by
  rename_i e;cases hx;rw[e];exact⟨rfl,tv⟩):g:=a
theorem X5 (a:g:=by
  rw[fh π _ (iM _),List.map_append];rfl):g:=a
theorem ach (a:g:=by
  rcases Nat.lt_or_ge i cx.length with hh|hh
  ·exact hh
  ·rw[List.getElem?_eq_none hh]at hi';cases hi'):g:=a
theorem aci (a:g:=by
  refine gQ (fe ⟨3,_,Z⟩ ?_) Z;rw[x5,mZ,if_pos (.inr (.inr (by rw[hdr];exact hE)))]):g:=a
theorem acj (a:g:=by
  by_cases hp:p<R.ts.length
  ·exact hp
  ·rw[Rd.tok,List.getElem?_eq_none om]at hk;cases hk):g:=a
theorem ack (h:g:=by
  cases m with
  |zero=>rfl
  |succ m=>
   cases k' with
   |zero=>omega
   |succ k'=>simp[hP]at h):g:=h
theorem acm (h:g:=by
  refine eL ?_ hk
  symm
  rw[List.all_eq_false];exact⟨s[i],List.getElem_mem h,by simpa using h2⟩):g:=h
theorem aco (a:g:=by
  repeat refine a7 h3 ?_
  refine eL ?_ hk;have h3:iT c=false:=h3;simp[dX,h3]):g:=a
theorem acp (a:g:=by
  simp only[List.flatten_append,List.flatten_cons,List.flatten_nil,List.append_nil,List.append_assoc]):g:=a
theorem acq (a:g:=by
  repeat refine a7 h1 ?_
  refine eL ?_ hk;have D2:s=[]:=by simpa using h1
  subst D2;rfl):g:=a
theorem acr (a:g:=by
  exact cg h2 (cg h2 (eL (by simp only[isWord,h2,Bool.true_or,Bool.or_true]) hk))):g:=a
theorem acs (a:g:=by
  repeat refine a7 h3 ?_
  refine eL ?_ hk;have h3:k9 c=false:=h3;simp[cK,h3]):g:=a
theorem acu (h:g:=by
  rw[c8]at hb;split at hb
  ·rename_i e;subst e;exact h.wf.lt _ _ hg
  ·exact h.wf.lt _ _ hb):g:=h
theorem acv (h:g:=by
  rcases Nat.lt_or_ge i ops.size with h|h
  ·exact h
  ·rw[Array.getElem?_eq_none h]at ho;cases ho):g:=h
theorem aeD (h:g:=by
  split at h
  ·split at h
   ·split at h
    ·cases h;rfl
    ·cases h
   ·cases h
  ·cases h):g:=h
theorem aeE (c:g:=by
  show ext fg [.string ⟨⟨a⟩⟩,.string ⟨⟨b⟩⟩]=_;rfl):g:=c
theorem XL (a:g:=by
  have:decide (Int.ofNat els.length=Int.ofNat wl.length)=true:=zJ hc;exact AJ this):g:=a
theorem aeH (a:g:=by
  rw[List.drop_zero,List.take_of_length_le sm,List.set_append_right _ _ sm];simp):g:=a
theorem aeI (h:g:=by
  split at h
  ·exact vC hdf htm h
  ·cases h;exact⟨_,rfl,rfl,rfl,rfl⟩
  ·cases h):g:=h
theorem aeJ (h:g:=by
  have h':=ee (a:=65536) h;refine a8 0 ⟨Z,Z,?_⟩;rw[jl,if_pos h'];rfl):g:=h
theorem aeL (a:g:=by
  exact cg h1 (cg h1 (eL (by simp only[isWord,h1,Bool.true_or]) hk))):g:=a
theorem OO (h:g:=by
  have:(Tr.nil:Tr (List Nat)).get f=some ms:=h;rw[pF]at this;cases this):g:=h
inductive Tr (α:Type)where
 |nil
 |node (v:Option α) (l r:Tr α)
def hP:Nat->Nat->List Bool
 |0,_=>[]
 |k+1,n=>match n with
  |0=>[]
  |m+1=>(agj (m%2) 0)::hP k (m/2)
def path(n:Nat):List Bool:=hP n n
def iN{a:Type}:List Bool->Tr a->Option a
 |_,.nil=>none
 |[],.node v _ _=>v
 |b::c,.node _ e d=>match b with
  |true=>iN c e
  |false=>iN c d
def l7{a:Type}(o:Option a):List Bool->Tr a->Tr a
 |[],.nil=>.node o .nil .nil
 |[],.node _ e d=>.node o e d
 |b::c,.nil=>match b with
  |true=>.node none (l7 o c .nil) .nil
  |false=>.node none .nil (l7 o c .nil)
 |b::c,.node v e d=>match b with
  |true=>.node v (l7 o c e) d
  |false=>.node v e (l7 o c d)
def Tr.get{a:Type}(t:Tr a)(n:Nat):Option a:=iN (path n) t
def Tr.put{a:Type}(t:Tr a)(n:Nat)(o:Option a):Tr a:=l7 o (path n) t
def Tr.set{a:Type}(t:Tr a)(n:Nat)(v:a):Tr a:=t.put n (some v)
def eE{a:Type}:Nat->List a->Tr a->Tr a
 |_,[],t=>t
 |i,v::b,t=>eE (i+1) b (t.set i v)
structure Fg where
 state:LoopState
 pending:Option Code
 fn:FuncId
 tm:Tr Value
 nt:Nat
 params:List Tmp
 assign:Code
 body:Code
 defers:Nat
inductive fX where
 |cells (c:List Value) (es dP fo:Nat)
 |map (entries:List MapEntry) (clock:Nat)
 |loop (l:Fg)
 |eI (taken:Bool)
 |iter (s:ByteArray) (pos:Nat)
 |j2 (T e:TypeId) (l:cq)
 |dead
structure St where
 hp:Tr fX
 n:Nat
 fm:Tr (List Nat)
structure Fr where
 tm:Tr Value
 df:List Deferred
structure FC where
 fn:FuncId
 nt:Nat
 round:Option Nat
 DZ:Bool
inductive dW where
 |none
 |gg (v:Value)
 |rD
inductive Ex where
 |norm
 |exit (id:Nat)
 |ret
 |panic (v:Value)
inductive CR where
 |ret (v:Value)
 |eH (v:Value)
inductive AR where
 |val (v:Value) (st:St)
 |eH (v:Value) (st:St)
 |enter (f:FuncId) (args:List Value)
 |yield (l:Nat) (args:List Value)
 |recover
 |defer (d:Deferred)
structure TI where
 desc:TypeDesc
 size:Nat
 agg:Bool
 zero:List Value
 bytes:Nat
structure FI where
 nt:Nat
 body:Code
 VE:List ResultVar
structure dR where
 P:Program
 tt:Tr TI
 ff:Tr FI
 ext:ql
 bt:TypeId
 be:TypeId
 prm:FuncId->List Value->St->Option (Value×St)
def dW.isNone:dW->Bool|.none=>true|_=>false
def St.new(st:St)(o:fX):St:={st with hp:=st.hp.set st.n o,n:=st.n+1}
def St.put(st:St)(b:Nat)(o:fX):St:={st with hp:=st.hp.set b o}
def St.get(st:St)(b:Nat):Option fX:=st.hp.get b
def overlaps(fo a lo hi:Nat):Bool:=agq fo hi&&agq lo (fo+a)
def eh(b lo hi:Nat):List Nat->Tr fX->Tr fX×List Nat
 |[],a=>(a,[])
 |m::d,a=>
  match agj m b with
  |true=>let e:=eh b lo hi d a;(e.1,m::e.2)
  |false=>
   match a.get m with
   |some (.cells c _ _ fo)=>
    match overlaps fo c.length lo hi with
    |true=>eh b lo hi d (a.set m .dead)
    |false=>let e:=eh b lo hi d a;(e.1,m::e.2)
   |_=>let e:=eh b lo hi d a;(e.1,m::e.2)
def St.kill(st:St)(dP b lo hi:Nat):St:=
 match st.fm.get dP with
 |none=>st
 |some a=>let c:=eh b lo hi a st.hp;{st with hp:=c.1,fm:=st.fm.set dP c.2}
def dw:List Value->Nat->List Value->List Value
 |c,_,[]=>c
 |[],_,_::_=>[]
 |x::c,n,v::a=>match n with
  |0=>v::dw c 0 a
  |m+1=>x::dw c m (v::a)
def gq(st:St)(b o n:Nat):Option (List Value):=
 match st.get b with
 |some (.cells c _ _ _)=>match agn (o+n) c.length with
  |true=>some ((c.drop o).take n)
  |false=>none
 |_=>none
def fM:Value->Bool
 |.agg _|.tuple _=>false
 |_=>true
def fY(st:St)(b o:Nat)(a:List Value):Option St:=
 match st.get b with
 |some (.cells c es dP fo)=>match agn (o+a.length) c.length&&a.all fM&&agq 0 b with
  |true=>some ((st.put b (.cells (dw c o a) es dP fo)).kill dP b (fo+o) (fo+o+a.length))
  |false=>none
 |_=>none
def newRow(st:St)(es:Nat)(c:List Value):Nat×St:=(st.n,st.new (.cells c es st.n 0))
def Iz(a:Bool)(c:List Value):Option Value:=
 match a with
 |true=>some (.agg c.toArray)
 |false=>match c with
  |[v]=>some v
  |_=>none
def cellsOf:Value->List Value
 |.agg a=>a.toList
 |v=>[v]
def l8:cq->cq->Bool
 |[],[]=>true
 |a::d,b::c=>match agj a.toNat b.toNat with
  |true=>l8 d c
  |false=>false
 |_,_=>false
def cE:cq->cq->Bool
 |_,[]=>false
 |[],_::_=>true
 |a::d,b::c=>match agq a.toNat b.toNat with
  |true=>true
  |false=>match agj a.toNat b.toNat with
   |true=>cE d c
   |false=>false
def pz(a b:ByteArray):Bool:=l8 a.data.toList b.data.toList
def Fh(a b:ByteArray):Bool:=cE a.data.toList b.data.toList
def Lg(a b:ByteArray):ByteArray:=⟨⟨a.data.toList++b.data.toList⟩⟩
def Lh(b:ByteArray)(l a:Nat):ByteArray:=⟨⟨(b.data.toList.take a).drop l⟩⟩
def qp:Int->Int->Bool
 |.ofNat a,.ofNat b=>agj a b
 |.negSucc a,.negSucc b=>agj a b
 |_,_=>false
def tY:IntKind->IntKind->Bool
 |.i8,.i8|.i16,.i16|.i32,.i32|.i64,.i64|.u8,.u8|.u16,.u16|.u32,.u32|.u64,.u64=>true
 |_,_=>false
def addrEq(a b:Addr):Bool:=agj a.block b.block&&agj a.off b.off&&(match a.spot,b.spot with|none,none=>true|_,_=>false)
def Sm:Fn->Fn->Bool
 |.func b,.func a=>agj b a
 |.yield b,.yield a=>agj b a
 |_,_=>false
mutual
def nV:Value->Value->Bool
 |.bool a,.bool b=>a==b
 |.int k a,.int k' b=>tY k k'&&qp a b
 |.string a,.string b=>pz a b
 |.pointer none,.pointer none=>true
 |.pointer (some a),.pointer (some b)=>addrEq a b
 |.slice none l c,.slice none l' c'=>agj l l'&&agj c c'
 |.slice (some a) l c,.slice (some b) l' c'=>addrEq a b&&agj l l'&&agj c c'
 |.map none,.map none=>true
 |.map (some a),.map (some b)=>agj a b
 |.func f ⟨a⟩ ⟨b⟩,.func f' ⟨a'⟩ ⟨b'⟩=>Sm f f'&&zO a a'&&zO b b'
 |.nilFunc,.nilFunc=>true
 |.nilIface,.nilIface=>true
 |.iface t v,.iface t' v'=>agj t t'&&nV v v'
 |.agg ⟨a⟩,.agg ⟨b⟩=>zO a b
 |.tuple ⟨a⟩,.tuple ⟨b⟩=>zO a b
 |_,_=>false
def zO:List Value->List Value->Bool
 |[],[]=>true
 |a::x,b::y=>nV a b&&zO x y
 |_,_=>false
end
def nth{a:Type}:List a->Nat->Option a
 |[],_=>none
 |x::b,n=>match n with
  |0=>some x
  |m+1=>nth b m
def tZ:Int->Int->Bool
 |.ofNat a,.ofNat b=>agq a b
 |.negSucc a,.negSucc b=>agq b a
 |.negSucc _,.ofNat _=>true
 |.ofNat _,.negSucc _=>false
def wo(a:List Value):Nat->List Value
 |0=>[]
 |n+1=>a++wo a n
def qq(a:Nat->Option (Nat×Nat)):List Value->List (Nat×Value)->Option (List Value)
 |cells,[]=>some cells
 |cells,(e,v)::d=>
  match a e with
  |none=>none
  |some (c,b)=>
   match agj (cellsOf v).length b&&agn (c+b) cells.length with
   |true=>qq a (dw cells c (cellsOf v)) d
   |false=>none
def l9(a:Operand->Option Value):List (Nat×Operand)->Option (List (Nat×Value))
 |[]=>some []
 |(d,b)::c=>match a b,l9 a c with
  |some v,some e=>some ((d,v)::e)
  |_,_=>none
def nf(a:Operand->Option Value):List Operand->Option (List Value)
 |[]=>some []
 |x::c=>match a x,nf a c with
  |some v,some b=>some (v::b)
  |_,_=>none
def val(v:Value)(st:St):Option AR:=some (.val v st)
def ptr(b o:Nat):Value:=.pointer (some ⟨b,o,none⟩)
def lr:Value:=.tuple #[]
def xf(C:dR)(t:TypeId)(st:St):Option AR:=
 match C.tt.get t with
 |some ti=>match agj t C.bt with
  |false=>val (ptr st.n 0) (st.new (.cells ti.zero ti.size st.n 0))
  |true=>match ti.zero with
   |[.pointer none,.slice none 0 0]=>val (ptr st.n 0) (st.new (.j2 t C.be []))
   |_=>none
 |none=>none
def Li(v:Value)(st:St):Option AR:=
 match(cellsOf v).all fM with
 |true=>val (ptr st.n 0) (st.new (.cells (cellsOf v) (cellsOf v).length st.n 0))
 |false=>none
def gJ(C:dR)(a:Array Field)(c:Nat):Option (Nat×Nat):=
 match nth a.toList c with
 |some b=>match C.tt.get b.type with
  |some ti=>some (b.offset,ti.size)
  |none=>none
 |none=>none
def xc(C:dR)(t:TypeId)(d:List (Nat×Value))(st:St):Option AR:=
 match C.tt.get t with
 |some ti=>
  match ti.desc with
  |.struct a=>
   match(a.toList.all fun f=>(C.tt.get f.type).isSome),ti.agg,qq (gJ C a) ti.zero d with
   |true,true,some c=>val (.agg c.toArray) st
   |_,_,_=>none
  |.array _ b=>
   match C.tt.get b,ti.agg with
   |some e,true=>match qq (fun h=>some (h*e.size,e.size)) ti.zero d with
    |some c=>val (.agg c.toArray) st
    |none=>none
   |_,_=>none
  |_=>none
 |none=>none
def kf(C:dR)(t:TypeId)(len:Nat)(d:List (Nat×Value))(st:St):Option AR:=
 match C.tt.get t with
 |some ti=>
  match ti.desc with
  |.slice b=>
   match C.tt.get b with
   |some a=>
    match agq 0 a.size&&agn (len*a.size) 16777216&&agj a.zero.length a.size,qq (fun e=>some (e*a.size,a.size)) (wo a.zero len) d with
    |true,some c=>match c.all fM with
     |true=>val (.slice (some ⟨st.n,0,none⟩) len len) (st.new (.cells c a.size st.n 0))
     |false=>none
    |_,_=>none
   |none=>none
  |_=>none
 |none=>none
def ye(C:dR)(t:TypeId)(a:Value)(st:St):Option AR:=
 match C.tt.get t,a with
 |some ti,.pointer (some ⟨b,o,none⟩)=>
  match ti.agg||agj ti.size 1,gq st b o ti.size with
  |true,some c=>match Iz ti.agg c with
   |some v=>val v st
   |none=>none
  |_,_=>none
 |_,_=>none
def iC(C:dR)(t:TypeId)(c a:Value)(st:St):Option AR:=
 match C.tt.get t,c with
 |some ti,.pointer (some ⟨b,o,none⟩)=>
  match agj (cellsOf a).length ti.size with
  |true=>match fY st b o (cellsOf a)with
   |some dC=>val lr dC
   |none=>none
  |false=>none
 |_,_=>none
def ng(a:Value)(st:St):Option AR:=
 match a with
 |.pointer (some _)=>val a st
 |.iface _ _=>val a st
 |.func (.func _) _ _=>val a st
 |.func (.yield _) _ _=>val a st
 |_=>none
def jm:TypeDesc->Value->Value->Option Bool
 |.bool,.bool a,.bool b=>some (a==b)
 |.int _,.int d a,.int c b=>match tY d c with
  |true=>some (qp a b)
  |false=>none
 |.string,.string a,.string b=>some (pz a b)
 |_,_,_=>none
def ua(C:dR)(xs a:List Value):List Field->Option Bool
 |[]=>some true
 |f::d=>match f.name== "_" with
  |true=>none
  |false=>match C.tt.get f.type,nth xs f.offset,nth a f.offset with
   |some ti,some c,some b=>match ti.agg with
    |true=>none
    |false=>match jm ti.desc c b with
     |some true=>ua C xs a d
     |some false=>some false
     |none=>none
   |_,_,_=>none
def kA:Operand->Bool
 |.const _=>true
 |_=>false
def O9(C:dR)(t:TypeId)(n m:Operand)(i b:Value):Option Bool:=
 match C.tt.get t with
 |none=>none
 |some ti=>
  match ti.desc,i,b with
  |.pointer _,.pointer none,.pointer c=>some c.isNone
  |.pointer _,.pointer _,.pointer none=>some false
  |.pointer p,.pointer (some o),.pointer (some c)=>
   match C.tt.get p,o,c with
   |some f,⟨k,e,none⟩,⟨l,j,none⟩=>match agq 0 f.size&&agj k l with
    |true=>some (agj e j)
    |false=>none
   |_,_,_=>none
  |.interface _,.nilIface,.nilIface=>match kA n||kA m with
   |true=>some true
   |false=>none
  |.interface _,.nilIface,.iface _ _=>some false
  |.interface _,.iface _ _,.nilIface=>some false
  |.struct a,.agg xs,.agg h=>match ti.bytes with
   |_=>match C.P.eqGuardType C.P.depth t||C.P.stoodInHeld t with
    |true=>none
    |false=>ua C xs.toList h.toList a.toList
  |.slice _,.slice none _ _,.slice c _ _=>some c.isNone
  |.slice _,.slice _ _ _,.slice none _ _=>some false
  |.map _ _,.map none,.map c=>some c.isNone
  |.map _ _,.map _,.map none=>some false
  |.func _ _ _,.nilFunc,.nilFunc=>some true
  |.func _ _ _,.nilFunc,.func _ _ _=>some false
  |.func _ _ _,.func _ _ _,.nilFunc=>some false
  |d,i,b=>jm d i b
def ub(d:BinOp)(a:IntKind)(c b:Int):Option Value:=
 match d with
 |.add=>some (.int a (a.wrap (c+b)))
 |.sub=>some (.int a (a.wrap (c-b)))
 |.mul=>some (.int a (a.wrap (c*b)))
 |.quo=>match qp b 0 with|true=>none|false=>some (.int a (a.wrap (c.tdiv b)))
 |.rem=>match qp b 0 with|true=>none|false=>some (.int a (c.tmod b))
 |.and=>some (.int a (a.wrap (BitVec.ofInt a.bits c&&&BitVec.ofInt a.bits b).toNat))
 |.or=>some (.int a (a.wrap (BitVec.ofInt a.bits c|||BitVec.ofInt a.bits b).toNat))
 |.xor=>some (.int a (a.wrap (BitVec.ofInt a.bits c^^^BitVec.ofInt a.bits b).toNat))
 |.andNot=>some (.int a (a.wrap (BitVec.ofInt a.bits c&&& ~~~ BitVec.ofInt a.bits b).toNat))
 |.eql=>some (.bool (qp c b))
 |.neq=>some (.bool (!(qp c b)))
 |.lss=>some (.bool (tZ c b))
 |.leq=>some (.bool (!(tZ b c)))
 |.gtr=>some (.bool (tZ b c))
 |.geq=>some (.bool (!(tZ c b)))
 |_=>none
def uc(c:BinOp)(a:IntKind)(d:Int)(b:Int):Option Value:=
 match b with
 |.ofNat n=>match c with
  |.shl=>some (.int a (a.wrap (d*2^(min n a.bits))))
  |.shr=>some (.int a (d.fdiv (2^(min n a.bits))))
  |_=>none
 |_=>none
def BO:BinOp->Bool
 |.shl=>true
 |.shr=>true
 |_=>false
def xg(c:BinOp)(a b:ByteArray):Option Value:=
 match c with
 |.add=>match agn (a.data.toList.length+b.data.toList.length) 1099511627776 with
  |true=>some (.string (Lg a b))
  |false=>none
 |.eql=>some (.bool (pz a b))
 |.neq=>some (.bool (!(pz a b)))
 |.lss=>some (.bool (Fh a b))
 |.leq=>some (.bool (Fh a b||pz a b))
 |.gtr=>some (.bool (!(Fh a b||pz a b)))
 |.geq=>some (.bool (!(Fh a b)))
 |_=>none
def Gj(C:dR)(c:BinOp)(t:TypeId)(i h:Operand)(a b:Value):Option Value:=
 match a,b with
 |.int e d,.int f n=>match BO c with
  |true=>uc c e d n
  |false=>match tY e f with
   |true=>ub c e d n
   |false=>none
 |.string d,.string n=>xg c d n
 |a,b=>match c with
  |.eql=>(O9 C t i h a b).map .bool
  |.neq=>(O9 C t i h a b).map fun j=>.bool (!j)
  |_=>none
def aUn(c:UnOp)(d:Value):Option Value:=
 match c,d with
 |.neg,.int a n=>some (.int a (a.wrap (0-n)))
 |.xor,.int a n=>some (.int a (a.wrap (BitVec.ofInt a.bits (if a.signed then-1 else a.max)^^^BitVec.ofInt a.bits n).toNat))
 |.not,.bool b=>some (.bool (!b))
 |_,_=>none
def toByte:Value->Option UInt8
 |.int .u8 (.ofNat n)=>some (UInt8.ofNat n)
 |_=>none
def sj:List Value->Option cq
 |[]=>some []
 |v::c=>match toByte v,sj c with
  |some b,some a=>some (b::a)
  |_,_=>none
def ofBytes(l:cq):List Value:=l.map fun b=>.int .u8 b.toNat
def ig(C:dR)(src d:TypeId)(k:Value)(st:St):Option AR:=
 match C.tt.get src,C.tt.get d with
 |some i,some f=>
  match i.desc,f.desc,k with
  |.int _,.int l,.int _ n=>val (.int l (l.wrap n)) st
  |.string,.string,.string _=>val k st
  |.string,.slice j,.string e=>
   match C.tt.get j with
   |some a=>match a.desc with
    |.int .u8=>val (.slice (some ⟨st.n,0,none⟩) e.data.toList.length e.data.toList.length) (st.new (.cells (ofBytes e.data.toList) 1 st.n 0))
    |_=>none
   |none=>none
  |.slice j,.string,.slice m len _=>
   match C.tt.get j with
   |some a=>match a.desc with
    |.int .u8=>match m with
     |none=>val (.string ⟨#[]⟩) st
     |some ⟨b,o,none⟩=>match gq st b o len with
      |some c=>match sj c with
       |some p=>val (.string ⟨p.toArray⟩) st
       |none=>none
      |none=>none
     |_=>none
    |_=>none
   |none=>none
  |_,_,_=>none
 |_,_=>none
def gU(C:dR)(t:TypeId)(a:Value)(st:St):Option AR:=
 match C.tt.get t with
 |some ti=>match ti.desc with
  |.interface _=>none
  |_=>val (.iface t a) st
 |none=>none
def aau:Fn->Bool
 |.func _=>true
 |_=>false
def jn(C:dR)(t:TypeId)(l c:Value)(st:St):Option AR:=
 match C.tt.get t,l,c with
 |some ti,.int .i64 (.ofNat l),.int .i64 (.ofNat c)=>
  match ti.desc with
  |.slice b=>match C.tt.get b with
   |some a=>match agn l c&&agq 0 a.size&&agn (c*a.bytes) 1099511627776&&agn c 1099511627776&&agj a.zero.length a.size with
    |true=>val (.slice (some ⟨st.n,0,none⟩) l c) (st.new (.cells (wo a.zero c) a.size st.n 0))
    |false=>none
   |none=>none
  |_=>none
 |_,_,_=>none
def lu:Option Value->Nat->Option Nat
 |none,a=>some a
 |some (.int _ (.ofNat n)),_=>some n
 |_,_=>none
def Pa(st:St)(b:Nat):Option Nat:=
 match st.get b with
 |some (.cells _ es _ _)=>some es
 |_=>none
def pA(C:dR)(t:TypeId)(m:Value)(lo hi i:Option Value)(st:St):Option AR:=
 match C.tt.get t with
 |none=>none
 |some ti=>
  match ti.desc,m with
  |.string,.string j=>
   match lu lo 0,lu hi j.data.toList.length,i with
   |some f,some h,none=>match agn f h&&agn h j.data.toList.length with
    |true=>val (.string (Lh j f h)) st
    |false=>none
   |_,_,_=>none
  |.slice a,.slice l len d=>
   match C.tt.get a,lu lo 0,lu hi len,lu i d with
   |some e,some f,some h,some k=>
    match agn f h&&agn h k&&agn k d&&(hi.isSome||i.isNone)with
    |false=>none
    |true=>
     match l with
     |none=>match agj d 0 with
      |true=>val (.slice none 0 0) st
      |false=>none
     |some ⟨b,o,none⟩=>
      match agj d 0 with
      |true=>val (.slice l 0 0) st
      |false=>match Pa st b with
       |some es=>match agj es e.size with
        |true=>val (.slice (some ⟨b,o+f*e.size,none⟩) (h-f) (k-f)) st
        |false=>none
       |none=>none
     |_=>none
   |_,_,_,_=>none
  |.array n a,.pointer (some ⟨b,o,none⟩)=>
   match C.tt.get a,lu lo 0,lu hi n,i with
   |some e,some f,some h,none=>match agn f h&&agn h n&&(match st.get b with|some (.cells c es _ _)=>agj es e.size&&agn (o+n*e.size) c.length|_=>false)with
    |true=>val (.slice (some ⟨b,o+f*e.size,none⟩) (h-f) (n-f)) st
    |false=>none
   |_,_,_,_=>none
  |_,_=>none
def fI(C:dR)(h:TypeId)(e:Value)(f:Nat)(st:St):Option AR:=
 match C.tt.get h,e with
 |some ti,.pointer (some ⟨b,o,none⟩)=>
  match ti.desc with
  |.struct a=>match gJ C a f with
   |some (d,c)=>match agq 0 c with
    |true=>val (ptr b (o+d)) st
    |false=>none
   |none=>none
  |_=>none
 |_,_=>none
def Cn(C:dR)(t:TypeId)(b:List Value)(a:Nat):Option Value:=
 match C.tt.get t with
 |some ti=>match ti.agg with
  |true=>match agn (a+ti.size) b.length with
   |true=>some (.agg ((b.drop a).take ti.size).toArray)
   |false=>none
  |false=>nth b a
 |none=>none
def xh(C:dR)(t:TypeId)(d:Value)(f:Nat)(st:St):Option AR:=
 match C.tt.get t,d with
 |some ti,.agg c=>
  match ti.desc with
  |.struct a=>match nth a.toList f with
   |some b=>match Cn C b.type c.toList b.offset with
    |some v=>val v st
    |none=>none
   |none=>none
  |_=>none
 |_,_=>none
def gv(C:dR)(t:TypeId)(e f:Value)(st:St):Option AR:=
 match C.tt.get t,e,f with
 |some ti,.slice (some ⟨b,o,none⟩) len _,.int _ (.ofNat d)=>
  match ti.desc with
  |.slice a=>match C.tt.get a with
   |some c=>match agq d len with
    |true=>val (ptr b (o+d*c.size)) st
    |false=>none
   |none=>none
  |_=>none
 |some ti,.pointer (some ⟨b,o,none⟩),.int _ (.ofNat d)=>
  match ti.desc with
  |.array len a=>match C.tt.get a with
   |some c=>match agq d len with
    |true=>val (ptr b (o+d*c.size)) st
    |false=>none
   |none=>none
  |_=>none
 |_,_,_=>none
def ue(C:dR)(t:TypeId)(f i:Value)(st:St):Option AR:=
 match C.tt.get t,f,i with
 |some ti,.string h,.int _ (.ofNat c)=>
  match ti.desc with
  |.string=>match nth h.data.toList c with
   |some b=>val (.int .u8 b.toNat) st
   |none=>none
  |_=>none
 |some ti,.agg e,.int _ (.ofNat c)=>
  match ti.desc with
  |.array len a=>match C.tt.get a with
   |some d=>match agq c len with
    |true=>match Cn C a e.toList (c*d.size)with
     |some v=>val v st
     |none=>none
    |false=>none
   |none=>none
  |_=>none
 |_,_,_=>none
def rE(a:TypeDesc)(b:Value):List MapEntry->Nat->Option (Option (Nat×Value))
 |[],_=>some none
 |e::d,c=>match jm a b e.key with
  |some true=>some (some (c,e.val))
  |some false=>rE a b d (c+1)
  |none=>none
def rF:TypeDesc->Bool
 |.string=>true
 |.int _=>true
 |.bool=>true
 |_=>false
def qs(C:dR)(t:TypeId)(h j:Value)(a:Bool)(st:St):Option AR:=
 match C.tt.get t with
 |none=>none
 |some ti=>
  match ti.desc with
  |.map d e=>
   match C.tt.get d,C.tt.get e with
   |some c,some b=>
    match rF c.desc with
    |false=>none
    |true=>
     match(match h with
      |.map none=>some []
      |.map (some i)=>match st.get i with
       |some (.map es _)=>some es
       |_=>none
      |_=>none:Option (List MapEntry))with
     |none=>none
     |some es=>match rE c.desc j es 0 with
      |none=>none
      |some (some (_,v))=>val (if a then .tuple #[v,.bool true]else v) st
      |some none=>match Iz b.agg b.zero with
       |none=>none
       |some f=>val (if a then .tuple #[f,.bool false]else f) st
   |_,_=>none
  |_=>none
def xi:List MapEntry->Nat->Value->Value->List MapEntry
 |[],_,_,_=>[]
 |e::b,d,a,v=>match d with
  |0=>{e with key:=a,val:=v}::b
  |c+1=>e::xi b c a v
def jo(C:dR)(t:TypeId)(h e v:Value)(st:St):Option AR:=
 match C.tt.get t,h with
 |some ti,.map (some d)=>
  match ti.desc with
  |.map c _=>
   match C.tt.get c,st.get d with
   |some b,some (.map es a)=>
    match rF b.desc with
    |false=>none
    |true=>match rE b.desc e es 0 with
     |none=>none
     |some (some (f,_))=>val lr (st.put d (.map (xi es f e v) a))
     |some none=>val lr (st.put d (.map (es++[{key:=e,val:=v,born:=a}]) (a+1)))
   |_,_=>none
  |_=>none
 |_,_=>none
def jg(C:dR)(c:Value)(t:TypeId)(a:Bool)(st:St):Option AR:=
 match C.tt.get t with
 |none=>none
 |some ti=>
  match ti.desc with
  |.interface _=>none
  |_=>
   match c with
   |.iface d v=>match agj d t with
    |true=>val (if a then .tuple #[v,.bool true]else v) st
    |false=>match a,Iz ti.agg ti.zero with
     |true,some b=>val (.tuple #[b,.bool false]) st
     |_,_=>none
   |.nilIface=>match a,Iz ti.agg ti.zero with
    |true,some b=>val (.tuple #[b,.bool false]) st
    |_,_=>none
   |_=>none
def pB(b:Value)(c:Nat)(st:St):Option AR:=
 match b with
 |.tuple a=>match nth a.toList c with
  |some v=>val v st
  |none=>none
 |_=>none
def ii(st:St)(es n:Nat):Value->Option (List Value)
 |.slice none _ _=>some []
 |.slice (some ⟨b,o,none⟩) _ _=>gq st b o (n*es)
 |.string a=>some (ofBytes (a.data.toList.take n))
 |_=>none
def rf:Value->Option Nat
 |.slice _ n _=>some n
 |.string a=>some a.data.toList.length
 |_=>none
def fy:Nat:=1099511627776
def fP(st:St)(es:Nat)(a:Option Addr)(len d:Nat)(n:Nat)(xs:List Value):Option AR:=
 match agn (len+n) d with
 |true=>
  match a with
  |none=>val (.slice none (len+n) d) st
  |some ⟨b,o,none⟩=>
   match xs with
   |[]=>val (.slice a (len+n) d) st
   |_=>match fY st b (o+len*es) xs with
    |some dC=>val (.slice a (len+n) d) dC
    |none=>none
  |_=>none
 |false=>
  match a with
  |none=>val (.slice (some ⟨st.n,0,none⟩) n n) (st.new (.cells xs es st.n 0))
  |some ⟨b,o,none⟩=>
   match st.get b with
   |some (.cells c j dP fo)=>
    match agj j es&&agq 0 b,gq st b o (len*es)with
    |true,some old=>
     let e:=st.kill dP st.n (fo+o+len*es) (fo+o+(len+n)*es)
     let i:=match e.fm.get dP with|some i=>i|none=>if agn c.length (o+len*es)then [b]else []
     let f:=if agn c.length (o+len*es)then e else e.put b .dead
     val (.slice (some ⟨st.n,0,none⟩) (len+n) (len+n))
      {hp:=f.hp.set st.n (.cells (old++xs) es dP (fo+o)),n:=st.n+1,fm:=f.fm.set dP (st.n::i)}
    |_,_=>none
   |_=>none
  |_=>none
def o6(C:dR)(a:List TypeId)(c:List Value)(st:St):Option AR:=
 match a,c with
 |[i,j],[l,k]=>
  match C.tt.get i,C.tt.get j,l with
  |some ti,some f,.slice d len h=>
   match ti.desc with
   |.slice e=>
    match C.tt.get e with
    |some b=>
     match f.desc with
     |.int _=>none
     |_=>match rf k with
      |none=>none
      |some n=>match ii st b.size n k with
       |none=>none
       |some xs=>match agq 0 b.size&&agj xs.length (n*b.size)&&xs.all fM&&agn ((len+n)*b.bytes) fy&&agn (len+n) fy&&agj b.zero.length b.size with
        |true=>fP st b.size d len h n xs
        |false=>none
    |none=>none
   |_=>none
  |_,_,_=>none
 |_,_=>none
def IA(C:dR)(c:List TypeId)(e:List Value)(st:St):Option AR:=
 match c,e with
 |ts::_,[.slice f a _,src]=>
  match C.tt.get ts with
  |some ti=>
   match ti.desc with
   |.slice h=>match C.tt.get h,rf src with
    |some i,some d=>
     match ii st i.size (Nat.min d a) src with
     |some xs=>match f,xs with
      |none,_=>val (.int .i64 (.ofNat (Nat.min d a))) st
      |_,[]=>val (.int .i64 (.ofNat (Nat.min d a))) st
      |some ⟨b,o,none⟩,xs=>match fY st b o xs with
       |some dC=>val (.int .i64 (.ofNat (Nat.min d a))) dC
       |none=>none
      |_,_=>none
     |none=>none
    |_,_=>none
   |_=>none
  |none=>none
 |_,_=>none
def yf(C:dR)(a:List TypeId)(b:List Value)(st:St):Option AR:=
 match a,b with
 |t::_,c::_=>
  match C.tt.get t with
  |none=>none
  |some ti=>
   match ti.desc,c with
   |.string,.string d=>val (.int .i64 (.ofNat d.data.toList.length)) st
   |.array n _,_=>val (.int .i64 (.ofNat n)) st
   |.slice _,.slice _ n _=>val (.int .i64 (.ofNat n)) st
   |.map _ _,.map none=>val (.int .i64 (.ofNat 0)) st
   |.map _ _,.map (some e)=>match st.get e with
    |some (.map es _)=>val (.int .i64 (.ofNat es.length)) st
    |_=>none
   |_,_=>none
 |_,_=>none
def nO(c:Bool):Value->List Value->Option Value
 |.int d a,[]=>some (.int d a)
 |.int d a,.int _ b::e=>nO c (.int d (if(match c with|true=>tZ a b|false=>tZ b a)then b else a)) e
 |_,_=>none
def j9(C:dR)(b:Builtin)(a:List TypeId)(c:List Value)(st:St):Option AR:=
 match b with
 |.append=>o6 C a c st
 |.copy=>IA C a c st
 |.len=>yf C a c st
 |.max=>match c with
  |x::d=>match nO true x d with
   |some v=>val v st
   |none=>none
  |[]=>none
 |.min=>match c with
  |x::d=>match nO false x d with
   |some v=>val v st
   |none=>none
  |[]=>none
 |.recover=>some .recover
 |_=>none
def lx(C:dR)(f:Value)(b:List Value)(st:St):Option AR:=
 match f with
 |.func (.func d) first a=>
  let c:=first.toList++b++a.toList
  match C.ff.get d with
  |some _=>some (.enter d c)
  |none=>match C.ext d c with
   |some v=>val v st
   |none=>none
 |.func (.yield e) first _=>match first.toList with
  |[]=>some (.yield e b)
  |_=>none
 |_=>none
def Co(f:Value)(args:List Value):Option AR:=
 match f with
 |.func (.func b) first a=>some (.defer {target:=.fn (.func b) a,args:=(first.toList++args).toArray})
 |_=>none
def j8(C:dR)(a:Operand->Option Value)(o:Oper)(st:St):Option AR:=
 match o.op with
 |.move d=>match a d with|some v=>val v st|none=>none
 |.assign d=>match a d with|some v=>val v st|none=>none
 |.pick c l b=>match a c,a l,a b with
  |some (.bool t),some f,some v=>val (match t with|true=>f|false=>v) st
  |_,_,_=>none
 |.alloc t=>xf C t st
 |.box _ d=>match a d with|some v=>Li v st|none=>none
 |.build t p=>match l9 a p.toList with|some i=>xc C t i st|none=>none
 |.buildSlice t n p=>match l9 a p.toList with|some i=>kf C t n i st|none=>none
 |.load t l=>match a l with|some v=>ye C t v st|none=>none
 |.store t l d=>match a l,a d with|some v,some f=>iC C t v f st|_,_=>none
 |.nilCheck d=>match a d with|some v=>ng v st|none=>none
 |.binOp m t d x _=>match a d,a x with
  |some f,some v=>match Gj C m t d x f v with
   |some u=>val u st
   |none=>none
  |_,_=>none
 |.unOp m _ d=>match a d with
  |some f=>match aUn m f with
   |some u=>val u st
   |none=>none
  |none=>none
 |.convert z y d=>match a d with|some v=>ig C z y v st|none=>none
 |.makeInterface t d=>match a d with|some v=>gU C t v st|none=>none
 |.makeFunc fn l b=>match aau fn,nf a l.toList,nf a b.toList with
  |true,some f,some v=>val (.func fn f.toArray v.toArray) st
  |_,_,_=>none
 |.makeMap _ none=>val (.map (some st.n)) (st.new (.map [] 0))
 |.makeSlice t i c=>match a i,a c with|some f,some v=>jn C t f v st|_,_=>none
 |.slice t d lo hi w=>match a d,(match lo with|none=>some none|some i=>(a i).map some),(match hi with|none=>some none|some i=>(a i).map some),(match w with|none=>some none|some i=>(a i).map some)with
  |some v,some i,some h,some j=>pA C t v i h j st
  |_,_,_,_=>none
 |.fieldAddr t d q=>match a d with|some v=>fI C t v q st|none=>none
 |.field t d q=>match a d with|some v=>xh C t v q st|none=>none
 |.indexAddr t d s=>match a d,a s with|some f,some v=>gv C t f v st|_,_=>none
 |.index t d s=>match a d,a s with|some f,some v=>ue C t f v st|_,_=>none
 |.lookup t d s k=>match a d,a s with|some f,some v=>qs C t f v k st|_,_=>none
 |.mapUpdate t j r v=>match a j,a r,a v with|some j,some r,some v=>jo C t j r v st|_,_,_=>none
 |.insert t j r v=>match a j,a r,a v with|some j,some r,some v=>jo C t j r v st|_,_,_=>none
 |.typeAssert d _ t k=>match a d with|some v=>jg C v t k st|none=>none
 |.extract d s=>match a d with|some v=>pB v s st|none=>none
 |.call c=>match nf a c.args.toList with
  |none=>none
  |some e=>match c.callee with
   |.builtin b=>j9 C b c.argTypes.toList e st
   |.value q=>match a q with
    |some v=>lx C v e st
    |none=>none
   |.invoke _ _=>none
 |.defer c=>match nf a c.args.toList,c.callee with
  |some e,.value q=>match a q with
   |some v=>Co v e
   |none=>none
  |_,_=>none
 |.panic d=>match a d with
  |some (.iface t v)=>some (.eH (.iface t v) st)
  |_=>none
 |_=>none
def flat:Value->Bool
 |.bool _=>true
 |.int _ _=>true
 |.string _=>true
 |.pointer none=>true
 |.slice none 0 0=>true
 |.map none=>true
 |.nilFunc=>true
 |.nilIface=>true
 |_=>false
def rG:Value->Bool
 |.agg ⟨a⟩=>a.all flat
 |v=>flat v
structure Rec where
 code:FC->Code->Fr->dW->St->Option (Ex×Fr×dW×St)
 call:FuncId->List Value->Bool->dW->St->Option (CR×dW×St)
 round:Nat->List Value->St->Option (CR×St)
def VF:Rec:=⟨fun _ _ _ _ _=>none,fun _ _ _ _ _=>none,fun _ _ _=>none⟩
def jy(a:Fr):Operand->Option Value
 |.tmp t=>a.tm.get t
 |.const v=>match rG v with
  |true=>some v
  |false=>none
 |.global _=>none
 |.func b=>some (.func (.func b) #[] #[])
def gV(c:Nat)(a:Fr)(b:Option Tmp)(v:Value):Option Fr:=
 match b with
 |none=>some a
 |some d=>match agq d c with
  |true=>some {a with tm:=a.tm.set d v}
  |false=>none
inductive AK where
 |next (fr:Fr) (ps:dW) (st:St)
 |eH (v:Value) (fr:Fr) (ps:dW) (st:St)
def AK.go(d:Nat)(e:Fr)(a:Option Tmp)(v:Value)(c:dW)(st:St):Option AK:=
 match gV d e a v with
 |some b=>some (.next b c st)
 |none=>none
def nT(C:dR)(e:Rec)(c:FC)(o:Oper)(a:Fr)(b:dW)(st:St):Option AK:=
 match j8 C (jy a) o st with
 |none=>none
 |some (.val v dC)=>AK.go c.nt a o.dst v b dC
 |some (.eH v dC)=>some (.eH v a b dC)
 |some (.enter h d)=>match e.call h d false .none st with
  |some (.ret v,_,dC)=>AK.go c.nt a o.dst v b dC
  |some (.eH v,_,dC)=>some (.eH v a b dC)
  |none=>none
 |some (.yield i d)=>match e.round i d st with
  |some (.ret v,dC)=>AK.go c.nt a o.dst v b dC
  |some (.eH v,dC)=>some (.eH v a b dC)
  |none=>none
 |some .recover=>match c.round with
  |some _=>none
  |none=>match c.DZ,b with
   |true,.gg v=>AK.go c.nt a o.dst v .rD st
   |_,_=>AK.go c.nt a o.dst .nilIface b st
 |some (.defer f)=>match c.round with
  |some _=>none
  |none=>AK.go c.nt {a with df:=f::a.df} o.dst lr b st
def gC(c:List Oper)(e:Fr)(o:Oper):Option Bool:=
 match o.guard with
 |none=>some true
 |some (h,a)=>match nth c h with
  |none=>none
  |some d=>match d.dst with
   |none=>none
   |some f=>match e.tm.get f with
    |some (.bool b)=>some (match b,a with|true,true=>true|false,false=>true|_,_=>false)
    |some (.tuple _)=>some false
    |_=>none
def kg(C:dR)(e:Rec)(d:FC)(c:List Oper)(o:Oper)(a:Fr)(b:dW)(st:St):Option AK:=
 match gC c a o with
 |none=>none
 |some false=>AK.go d.nt a o.dst lr b st
 |some true=>nT C e d o a b st
def pC(C:dR)(e:Rec)(d:FC)(c:List Oper):List Oper->Fr->dW->St->Option (Ex×Fr×dW×St)
 |[],b,a,st=>some (.norm,b,a,st)
 |o::f,b,a,st=>match kg C e d c o b a st with
  |none=>none
  |some (.next b a st)=>pC C e d c f b a st
  |some (.eH v b a st)=>some (.panic v,b,a,st)
def gb:Op->Bool
 |.assign _|.store .. |.mapUpdate .. |.mapEntry .. |.entryStore .. |.insert .. |.ready _|.next .. |.go _|.defer _|.panic _|.send .. |.recv .. |.select .. =>true
 |.call {callee:=.builtin b,.. }=>match b with
  |.len|.cap|.min|.max=>false
  |_=>true
 |.call _=>true
 |_=>false
def gh:Op->Bool
 |.alloc _|.box .. |.buildSlice .. |.makeMap .. =>true
 |_=>false
def xj(a:List Oper)(b:Nat):Option Oper:=nth a b
def subset(a b:Nat):Bool:=agj (Nat.land a b) a
def IB:Op->Bool
 |.store .. |.indexAddr .. |.fieldAddr .. =>true
 |_=>false
def chained(a:List Oper)(d:List Nat)(i:Nat):Bool:=
 (agx i).all fun e=>match nth a e with
  |none=>false
  |some f=> !(gb f.op)||(agx e).all fun h=>match nth a h with
   |none=>false
   |some c=> !(gb c.op)||(match nth d e with|some b=>agy b h|none=>false)
def Cp(a:List Oper)(d:List Nat)(n c:Nat):Bool:=
 (agx (n-c)).all fun e=>(match nth d (c+e)with|some b=>subset (2^c-1) b|none=>false)&&(match nth a (c+e)with|some o=>IB o.op&&o.guard.isNone|none=>false)
def Sn(a:List Oper)(b:List Nat):Nat->Nat
 |0=>0
 |m+1=>match chained a b (m+1)&&Cp a b a.length (m+1)with
  |true=>m+1
  |false=>Sn a b m
structure adD where
 bs:List Nat
 m:Nat
 order:List Nat
def uf{a:Type}(n:Nat)(b:Nat->a):a:=
 match n with
 |0=>b 0
 |m+1=>b (m+1)
def Gk{a:Type}:List Nat->(List Nat->a)->a
 |[],b=>b []
 |x::c,b=>uf x fun x=>Gk c fun c=>b (x::c)
def rowOf(c:List Nat)(o:Oper):Nat:=o.after.toList.foldl (fun d a=>match Region.binds .any a with|true=>Nat.lor (Nat.lor d (2^a.on)) (match nth c a.on with|some b=>b|none=>0)|false=>d) 0
def So:List Oper->List Nat->List Nat
 |[],a=>a
 |o::b,a=>Gk (a++[rowOf a o]) fun a=>So b a
def Sp:List Oper->List Nat->Nat->Nat->Option Nat
 |o::e,b::c,d,a=>match gb o.op with
  |true=>match subset a b with
   |true=>uf (Nat.lor a (2^d)) fun a=>Sp e c (d+1) a
   |false=>some d
  |false=>Sp e c (d+1) a
 |_,_,_,_=>none
def NJ:List Oper->List Nat->Nat->Nat->List (Nat×Bool×Nat)
 |o::d,b::a,c,n+1=>(c,gb o.op,b)::NJ d a (c+1) n
 |_,_,_,_=>[]
def IC:List (Nat×Bool×Nat)->Option Nat
 |[]=>none
 |(b,true,_)::_=>some b
 |(_,false,_)::a=>IC a
def early(a:Nat):Nat×Bool×Nat->Bool
 |(_,true,_)=>false
 |(_,false,b)=> !(agy b a)
def NK:Nat->List (Nat×Bool×Nat)->List Nat
 |0,_=>[]
 |a+1,c=>match IC c with
  |none=>c.map (·.1)
  |some b=>(c.filter (early b)).map (·.1)++b::NK a (c.filter fun d=> !(agj d.1 b)&& !(early b d))
def rH(a:List Oper):adD:=
 Gk (So a []) fun c=>
 uf (match Sp a c 0 0 with|none=>a.length|some e=>Sn a c e) fun d=>
 Gk (NK (d+1) (NJ a c 0 d)) fun b=>⟨c,d,b⟩
inductive tJ where
 |val (i:Nat) (v:Value)
 |obj (i:Nat) (v:Value) (b:Nat) (o:fX)
 |skip (i:Nat)
def NL(a b:MapEntry):Bool:=nV a.key b.key&&nV a.val b.val&&agj a.born b.born
def pi:List MapEntry->List MapEntry->Bool
 |[],[]=>true
 |a::d,b::c=>NL a b&&pi d c
 |_,_=>false
def yd:fX->fX->Bool
 |.cells c n k i,.cells e h f a=>zO c e&&agj n h&&agj k f&&agj i a
 |.map es m,.map b j=>pi es b&&agj m j
 |.iter l i,.iter d a=>pz l d&&agj i a
 |_,_=>false
def AL(b:Fr)(a:Option Tmp)(v:Value):Bool:=
 match a with
 |none=>true
 |some c=>match b.tm.get c with
  |some d=>nV d v
  |none=>false
def isSome(a:Option Bool)(b:Bool):Bool:=
 match a,b with
 |some true,true=>true
 |some false,false=>true
 |_,_=>false
def pD(C:dR)(a:List Oper)(b:Fr)(st:St):tJ->Bool
 |.val e v=>match nth a e with
  |some o=>isSome (gC a b o) true&& !(gh o.op)&&AL b o.dst v&&(match j8 C (jy b) o st with
   |some (.val h i)=>nV h v&&agj i.n st.n
   |_=>false)
  |none=>false
 |.obj e v d f=>match nth a e with
  |some o=>isSome (gC a b o) true&&gh o.op&&AL b o.dst v&&(match st.get d with
   |some c=>yd c f
   |none=>false)&&(match j8 C (jy b) o ⟨.nil,d,.nil⟩with
   |some (.val h i)=>nV h v&&(match i.get d with
    |some c=>yd c f
    |none=>false)
   |_=>false)
  |none=>false
 |.skip e=>match nth a e with
  |some o=>isSome (gC a b o) false&&AL b o.dst lr
  |none=>false
def tJ.idx:tJ->Nat
 |.val a _=>a
 |.obj a _ _ _=>a
 |.skip a=>a
def o7(C:dR)(a:List Oper)(d:Fr)(st:St)(b:Nat):List tJ->Bool
 |[]=>true
 |c::e=>(agy b c.idx||pD C a d st c)&&o7 C a d st b e
def pj(b:List Oper)(a:Tr Value):Tr Value:=
 b.foldl (fun a o=>match o.dst with
  |some c=>match gb o.op with
   |true=>a
   |false=>a.put c none
  |none=>a) a
def eM(C:dR)(h:Rec)(f:FC)(c:List Oper)(j:List Nat):List Nat->Nat->List tJ->Fr->dW->St->Option (Ex×Fr×dW×St)
 |[],b,d,a,e,st=>
  match o7 C c a st b d with
  |true=>some (.norm,a,e,st)
  |false=>none
 |i::k,b,d,a,e,st=>
  match nth c i,nth j i with
  |some o,some l=>
   match gb o.op with
   |true=>
    match o7 C c a st b d with
    |false=>none
    |true=>match kg C h f c o a e st with
     |none=>none
     |some (.eH v a e st)=>some (.panic v,{a with tm:=pj c a.tm},e,st)
     |some (.next a e st)=>eM C h f c j k l d a e st
   |false=>
    match gC c a o with
    |none=>none
    |some false=>match gV f.nt a o.dst lr with
     |some a=>eM C h f c j k b (.skip i::d) a e st
     |none=>none
    |some true=>match j8 C (jy a) o st with
     |some (.val v dC)=>match gV f.nt a o.dst v with
      |none=>none
      |some a=>match gh o.op with
       |true=>match dC.get st.n with
        |some m=>eM C h f c j k b (.obj i v st.n m::d) a e dC
        |none=>none
       |false=>match agj dC.n st.n with
        |true=>eM C h f c j k b (.val i v::d) a e dC
        |false=>none
     |_=>none
  |_,_=>none
def apart(st:St)(b a:Nat):Bool:=
 match st.get b,st.get a with
 |some (.cells _ _ f1 _),some (.cells _ _ f2 _)=>
  !(agj b a)&& !(agj f1 f2)&&(match st.fm.get f2 with|none=>true|some _=>false)&&(match st.fm.get f1 with|none=>true|some ms=> !(ms.any (agj a)))
 |_,_=>false
def ID(C:dR)(t:FC)(i p k:Oper)(a:Fr)(s:dW)(st:St):Option (Ex×Fr×dW×St):=
 match i.dst,p.dst,k.dst,p.op,k.op,gb i.op||gh i.op with
 |some u,none,none,.store t1 y r,.store t2 x z,false=>
  match j8 C (jy a) i st with
  |some (.val v q)=>match agj q.n st.n,gV t.nt a (some u) v with
   |true,some b=>match jy b y,jy b r,jy ⟨a.tm.put u none,a.df⟩ x,jy ⟨a.tm.put u none,a.df⟩ z with
    |some (.pointer (some ⟨d,o,none⟩)),some n,some (.pointer (some ⟨h,m,none⟩)),some l=>match apart st d h with
     |false=>none
     |true=>match iC C t1 (.pointer (some ⟨d,o,none⟩)) n st,iC C t2 (.pointer (some ⟨h,m,none⟩)) l st with
      |some (.val _ j),some (.val _ c)=>match j8 C (jy a) i c with
       |some (.val w f)=>match nV v w&&agj f.n c.n with
        |false=>none
        |true=>match iC C t2 (.pointer (some ⟨h,m,none⟩)) l j,iC C t1 (.pointer (some ⟨d,o,none⟩)) n c with
         |some (.val _ e),some (.val _ _)=>some (.norm,b,s,e)
         |_,_=>none
       |_=>none
      |_,_=>none
    |_,_,_,_=>none
   |_,_=>none
  |_=>none
 |_,_,_,_,_,_=>none
def IE(C:dR)(o:FC)(l t f n:Oper)(a:Fr)(y:dW)(st:St):Option (Ex×Fr×dW×St):=
 match l.dst,t.dst,f.dst,n.dst,t.op,f.op,n.op,gb l.op||gh l.op with
 |some d,none,some c,none,.store t1 G x,.fieldAddr A w P,.store t2 D K,false=>
  match agj d c with
  |true=>none
  |false=>match j8 C (jy ⟨a.tm.put c none,a.df⟩) l st,jy ⟨a.tm.put d none,a.df⟩ w with
   |some (.val v u),some R=>match fI C A R P st with
    |some (.val i _)=>match agj u.n st.n,agq d o.nt&&agq c o.nt with
     |true,true=>match jy ⟨(a.tm.put c none).set d v,a.df⟩ G,jy ⟨(a.tm.put c none).set d v,a.df⟩ x,jy ⟨(a.tm.put d none).set c i,a.df⟩ D,jy ⟨(a.tm.put d none).set c i,a.df⟩ K with
      |some (.pointer (some ⟨e,s,none⟩)),some r,some (.pointer (some ⟨k,q,none⟩)),some p=>match apart st e k with
       |false=>none
       |true=>match iC C t1 (.pointer (some ⟨e,s,none⟩)) r st,iC C t2 (.pointer (some ⟨k,q,none⟩)) p st with
        |some (.val _ m),some (.val _ b)=>match j8 C (jy ⟨a.tm.put c none,a.df⟩) l b with
         |some (.val z j)=>match nV v z&&agj j.n b.n with
          |false=>none
          |true=>match iC C t2 (.pointer (some ⟨k,q,none⟩)) p m,iC C t1 (.pointer (some ⟨e,s,none⟩)) r b with
           |some (.val _ h),some (.val _ _)=>some (.norm,⟨(a.tm.set d v).set c i,a.df⟩,y,h)
           |_,_=>none
         |_=>none
        |_,_=>none
      |_,_,_,_=>none
     |_,_=>none
    |_=>none
   |_,_=>none
 |_,_,_,_,_,_,_,_=>none
def region(C:dR)(k:Rec)(e:FC)(a:Array Oper)(j:Bool)(c:Fr)(b:dW)(st:St):Option (Ex×Fr×dW×St):=
 match j with
 |false=>pC C k e a.toList a.toList c b st
 |true=>
  let d:=rH a.toList
  match eM C k e a.toList d.bs d.order 0 [] c b st with
  |some (.norm,c,b,st)=>match agj d.m a.toList.length with
   |true=>some (.norm,c,b,st)
   |false=>match a.toList.drop d.m,nth d.bs (d.m+1)with
    |[l,i,h],some f=>match agy f d.m with
     |true=>ID C e l i h c b st
     |false=>none
    |[l,i,n,h],some f=>match agy f d.m,nth d.bs (d.m+3)with
     |true,some m=>match agy m (d.m+2)with
      |true=>IE C e l i n h c b st
      |false=>none
     |_,_=>none
    |_,_=>none
  |r=>r
def pE(a:FC)(b:Fr)(params:List Tmp)(assign body:Code)(st:St):Option (Nat×Fr×St):=
 match a.round with
 |some f=>match st.get f with
  |some (.loop d)=>some (st.n,b,st.new (.loop {state:=.ready,pending:=none,fn:=a.fn,tm:=b.tm,nt:=a.nt,params,assign,body,defers:=d.defers}))
  |_=>none
 |none=>
  let e:=st.n
  let c:=st.new (.eI false)
  some (c.n,{b with df:={target:=.collected e,args:= #[]}::b.df},c.new (.loop {state:=.ready,pending:=none,fn:=a.fn,tm:=b.tm,nt:=a.nt,params,assign,body,defers:=e}))
def Gl:Option Code->Option Ex
 |none=>some .norm
 |some .ret=>some .ret
 |some (.exit id)=>some (.exit id)
 |_=>none
def code(C:dR)(f:Rec)(e:FC):Code->Fr->dW->St->Option (Ex×Fr×dW×St)
 |.skip,a,d,st=>some (.norm,a,d,st)
 |.region _ o n,a,d,st=>region C f e o n a d st
 |.seq p b,a,d,st=>match code C f e p a d st with
  |some (.norm,a,d,st)=>code C f e b a d st
  |r=>r
 |.cond c p b,a,d,st=>match jy a c with
  |some (.bool true)=>code C f e p a d st
  |some (.bool false)=>code C f e b a d st
  |_=>none
 |.block id b,a,d,st=>match code C f e b a d st with
  |some (.exit k,a,d,st)=>match agj k id with
   |true=>some (.norm,a,d,st)
   |false=>some (.exit k,a,d,st)
  |r=>r
 |.loop b,a,d,st=>match code C f e b a d st with
  |some (.norm,a,d,st)=>f.code e (.loop b) a d st
  |r=>r
 |.rangeFunc t j i m,a,d,st=>
  match jy a t,pE e a j.toList i m st with
  |some (.func (.func s) first h),some (q,a,st)=>
   match C.ff.get s with
   |none=>none
   |some _=>match f.call s (first.toList++[.func (.yield q) #[] #[]]++h.toList) false .none st with
    |some (.ret _,_,st)=>match st.get q with
     |some (.loop l)=>match l.state with
      |.busy=>none
      |_=>match Gl l.pending with
       |some u=>some (u,a,d,st.put q (.loop {l with state:=.exhausted}))
       |none=>none
     |_=>none
    |some (.eH v,_,st)=>some (.panic v,a,d,st)
    |none=>none
  |_,_=>none
 |.exit id,a,d,st=>some (.exit id,a,d,st)
 |.ret,a,d,st=>some (.ret,a,d,st)
 |_,_,_,_=>none
inductive Mode where
 |returning
 |panicking (v:Value)
def kB(C:dR)(b:Rec):List Deferred->Mode->St->Option (Mode×St)
 |[],m,st=>some (m,st)
 |d::c,m,st=>
  match d.target with
  |.collected h=>match st.get h with
   |some (.eI false)=>kB C b c m (st.put h (.eI true))
   |_=>none
  |.fn (.func f) a=>
   match C.ff.get f,b.call f (d.args.toList++a.toList) true (match m with|.returning=>.none|.panicking v=>.gg v) st with
   |some _,some (.ret _,e,st)=>kB C b c (match m,e with|.panicking _,.rD=>.returning|m,_=>m) st
   |_,_=>none
  |_=>none
def Cq(C:dR)(a:Tr Value)(st:St):ResultVar->Option Value
 |.tmp t=>a.get t
 |.cell c t=>match a.get c with
  |some b=>match ye C t b st with
   |some (.val v _)=>some v
   |_=>none
  |none=>none
def qt(C:dR)(a:Tr Value)(st:St):List ResultVar->Option (List Value)
 |[]=>some []
 |r::c=>match Cq C a st r,qt C a st c with
  |some v,some b=>some (v::b)
  |_,_=>none
def vD:List Value->Value
 |[v]=>v
 |a=>.tuple a.toArray
def finish(C:dR)(d:Rec)(e:FI)(f:Mode)(b:Fr)(a:dW)(st:St):Option (CR×dW×St):=
 match kB C d b.df f st with
 |none=>none
 |some (.panicking v,st)=>some (.eH v,a,st)
 |some (.returning,st)=>match qt C b.tm st e.VE with
  |some c=>some (.ret (vD c),a,st)
  |none=>none
def yg(C:dR)(e:Rec)(f:FuncId)(c:List Value)(h:Bool)(a:dW)(st:St):Option (CR×dW×St):=
 match C.ff.get f with
 |none=>none
 |some b=>match agn c.length b.nt with
  |false=>none
  |true=>match code C e ⟨f,b.nt,none,h⟩ b.body ⟨eE 0 c .nil,[]⟩ a st with
   |some (.norm,d,a,st)=>finish C e b .returning d a st
   |some (.ret,d,a,st)=>finish C e b .returning d a st
   |some (.panic v,d,a,st)=>finish C e b (.panicking v) d a st
   |_=>none
def nh:List Tmp->List Value->Nat->Tr Value->Option (Tr Value)
 |[],[],_,a=>some a
 |t::c,v::d,b,a=>match agq t b with
  |true=>nh c d b (a.set t v)
  |false=>none
 |_,_,_,_=>none
def ug(C:dR)(f:Rec)(l:Nat)(d:List Value)(st:St):Option (CR×St):=
 match st.get l with
 |some (.loop a)=>
  match C.ff.get a.fn,nh a.params d a.nt a.tm with
  |none,_=>none
  |_,none=>none
  |some _,some h=>
   let e:FC:=⟨a.fn,a.nt,some l,false⟩
   match code C f e a.assign ⟨h,[]⟩ .none st with
   |some (.norm,b,_,st)=>match st.get l with
    |some (.loop c)=>match c.state with
     |.ready=>match code C f e a.body b .none (st.put l (.loop {c with state:=.busy}))with
      |some (.norm,b,_,st)=>match st.get l,b.df with
       |some (.loop a),[]=>some (.ret (.bool true),st.put l (.loop {a with state:=.ready,pending:=none}))
       |_,_=>none
      |some (.ret,b,_,st)=>match st.get l,b.df with
       |some (.loop a),[]=>some (.ret (.bool false),st.put l (.loop {a with state:=.done,pending:=some .ret}))
       |_,_=>none
      |some (.exit id,b,_,st)=>match st.get l,b.df with
       |some (.loop a),[]=>some (.ret (.bool false),st.put l (.loop {a with state:=.done,pending:=some (.exit id)}))
       |_,_=>none
      |some (.panic v,b,_,st)=>match b.df with
       |[]=>some (.eH v,st)
       |_=>none
      |none=>none
     |_=>none
    |_=>none
   |_=>none
 |_=>none
def BP(v:Value)(a:dW)(st:St):Option (CR×dW×St):=match v with
 |.agg ⟨[b,.iface t .nilIface]⟩=>some (.ret (.tuple ⟨[b,.iface t (.pointer (some ⟨st.n,0,none⟩))]⟩),a,{st with n:=st.n+1})
 |v=>some (.ret v,a,st)
def jN(C:dR)(b:ql):Nat->Rec
 |0=>VF
 |n+1=>{
   code:=fun h c i d st=>code C (jN C b n) h c i d st
   call:=fun f a e d st=>match e,b f a with
    |false,some v=>BP v d st
    |false,none=>match C.prm f a st with
     |some (v,dC)=>some (.ret v,d,dC)
     |none=>yg C (jN C b n) f a e d st
    |_,_=>yg C (jN C b n) f a e d st
   round:=fun j a st=>ug C (jN C b n) j a st}
def iO(a:List Oper)(b:Nat):Bool:=match nth a b with|some o=>gb o.op|none=>false
def jA(a:List Nat)(d c:Nat):Bool:=match nth a d with|some b=>agy b c|none=>false
def BQ(a:List Oper)(b:List Nat):List Nat->Bool
 |[]=>true
 |e::r=>(!(iO a e)||r.all fun c=>jA b c e)&&BQ a b r
def tmpsOf:List Operand->List Tmp
 |[]=>[]
 |.tmp t::a=>t::tmpsOf a
 |_::a=>tmpsOf a
def qu(a:List Oper)(o:Oper):List Tmp:=
 tmpsOf o.op.operands.toList++(match o.guard with
  |none=>[]
  |some (d,_)=>match nth a d with
   |some b=>match b.dst with
    |some c=>[c]
    |none=>[]
   |none=>[])
def NM(a:List Oper)(d:List Nat)(n:Nat):Bool:=
 (agx n).all fun f=>match nth a f with
  |none=>false
  |some b=>gb b.op||(match b.dst with
   |none=>true
   |some t=>(agx n).all fun e=>(match nth a e with
    |none=>false
    |some c=> !((qu a c).any (agj t))||jA d e f))
def Gm(a:List Oper):Bool:=
 let c:=rH a
 ((agx a.length).all fun d=>match nth a d with
  |none=>false
  |some o=>o.after.toList.all fun e=> !(Region.binds .any e)||agq e.on d)&&
 ((agx a.length).all fun d=>match nth a d,nth c.bs d with
  |some o,some b=>agj b (rowOf c.bs o)
  |_,_=>false)&&
 agn c.m a.length&&((agx c.m).all fun d=>c.order.any (agj d))&&(c.order.all fun d=>agq d c.m)&&agj c.order.length c.m&&
 BQ a c.bs c.order&&NM a c.bs a.length&&Cp a c.bs a.length c.m
def codeOk:Code->Bool
 |.region _ c true=>Gm c.toList
 |.seq a b=>codeOk a&&codeOk b
 |.cond _ a b=>codeOk a&&codeOk b
 |.block _ b=>codeOk b
 |.loop b=>codeOk b
 |.rangeFunc _ _ a b=>codeOk a&&codeOk b
 |_=>true
open Go.RowKit (Below)
theorem Lj(a:Nat):hP a 0=[]:=by cases a<;>rfl
theorem Pb:∀(a k' n m:Nat),n<=a->m<=k'->hP a n=hP k' m->n=m:=by
 intro a;induction a with
 |zero=>
  intro k' n m d b h;have:n=0:=om;subst this;exact ack
 |succ a c=>
  intro k' n m d b h;cases n with
  |zero=>
   exact ack
  |succ n=>
   cases m with
   |zero=>rw[Lj]at h;simp[hP]at h
   |succ m=>
    cases k' with
    |zero=>omega
    |succ k'=>
     simp only[hP,List.cons.injEq]at h;have f:=c k' (n/2) (m/2) om om h.2;have i:(n%2=0)↔(m%2=0):=by
      have e:=h.1;rw[agt,agM,agM]at e;exact e
     omega
theorem Sq{n a:Nat}(b:path n=path a):n=a:=Pb n a n a (agD _) (agD _) b
theorem qv{a:Type}(p:List Bool):iN p (Tr.nil:Tr a)=none:=by cases p<;>rfl
theorem yh{c:Type}(o:Option c):∀(a:List Bool) (t:Tr c),iN a (l7 o a t)=o:=by
 intro a;induction a with
 |nil=>intro t;cases t<;>rfl
 |cons b a d=>intro t;cases t<;>cases b<;>simp[l7,iN,d]
theorem Br{e:Type}(o:Option e):∀(d a:List Bool) (t:Tr e),d≠a->iN a (l7 o d t)=iN a t:=by
 intro d;induction d with
 |nil=>
  intro a t f;cases a with
  |nil=>exact absurd rfl f
  |cons c a=>cases t<;>cases c<;>simp[l7,iN,qv]
 |cons b d j=>
  intro a t f;cases a with
  |nil=>cases t<;>cases b<;>simp[l7,iN]
  |cons c a=>
   have i:b=c->d≠a:=fun k h=>f (by rw[k,h]);cases t<;>cases b<;>cases c<;>simp_all [l7,iN,qv]
theorem cY{a:Type}(t:Tr a)(n b:Nat)(o:Option a):(t.put n o).get b=if b=n then o else t.get b:=by
 unfold Tr.get Tr.put;by_cases c:b=n
 ·subst c;rw[if_pos rfl,yh]
 ·rw[if_neg c,Br _ _ _ _ (fun d=>c (Sq d).symm)]
theorem cB{a:Type}(t:Tr a)(n b:Nat)(v:a):(t.set n v).get b=if b=n then some v else t.get b:=cY t n b (some v)
theorem pF{a:Type}(n:Nat):(Tr.nil:Tr a).get n=none:=qv _
theorem ck{d:Type}:∀(b:List d) (a:Nat),nth b a=b[a]?:=by
 intro b;induction b with
 |nil=>intro a;rfl
 |cons e b c=>intro a;cases a<;>simp[nth,c]
theorem qw{f:Type}:∀(c:List f) (b:Nat) (t:Tr f) (a:Nat),(eE b c t).get a=if b<=a/\a<b+c.length then c[a-b]? else t.get a:=by
 intro c;induction c with
 |nil=>intro b t a;simp only[eE,agE];rw[if_neg om]
 |cons i c h=>
  intro b t a;simp only[eE,h,cB,agr];by_cases e:a=b
  ·subst e;rw[if_neg om,if_pos rfl,if_pos om,agR];rfl
  ·by_cases d:b+1<=a/\a<b+1+c.length
   ·rw[if_pos d,if_pos om,show a-b=(a-(b+1))+1 from by omega];rfl
   ·rw[if_neg d,if_neg e,if_neg om]
structure Loc where
 b:Nat
 d:Nat
 es:Nat
 sz:Nat
 rw:Bool
abbrev Ren:=Nat->Option Loc
def Ren.le(ρ a:Ren):Prop:=∀b c,ρ b=some c->a b=some c
theorem Ren.le_refl(ρ:Ren):ρ.le ρ:=fun _ _ a=>a
theorem Ren.le.trans{d b c:Ren}(f:d.le b)(h:b.le c):d.le c:=fun a e i=>h a e (f a e i)
mutual
inductive cX (ρ:Ren):Value->Value->Prop
 |bool (b:Bool):cX ρ (.bool b) (.bool b)
 |int (k:IntKind) (n:Int):cX ρ (.int k n) (.int k n)
 |string (s:ByteArray):cX ρ (.string s) (.string s)
 |Lk:cX ρ (.pointer none) (.pointer none)
 |ptr {b o:Nat} {l:Loc} (h:ρ b=some l):cX ρ (.pointer (some ⟨b,o,none⟩)) (.pointer (some ⟨l.b,l.d+o,none⟩))
 |me:cX ρ (.slice none 0 0) (.slice none 0 0)
 |jp (a a':Addr):cX ρ (.slice (some a) 0 0) (.slice (some a') 0 0)
 |slice {b o len cap aav:Nat} {l:Loc} (h:ρ b=some l) (hc:cap<=aav) (hb:l.d+o+aav*l.es<=l.sz):
   cX ρ (.slice (some ⟨b,o,none⟩) len cap) (.slice (some ⟨l.b,l.d+o,none⟩) len aav)
 |Ll:cX ρ (.map none) (.map none)
 |map {r:Nat} {l:Loc} (h:ρ r=some l):cX ρ (.map (some r)) (.map (some l.b))
 |func (f:FuncId) {a a' c c':Array Value} (h1:cT ρ a.toList a'.toList) (h2:cT ρ c.toList c'.toList):cX ρ (.func (.func f) a c) (.func (.func f) a' c')
 |yield {r:Nat} {l:Loc} {a a' c c':Array Value} (h:ρ r=some l) (h1:cT ρ a.toList a'.toList) (h2:cT ρ c.toList c'.toList):
   cX ρ (.func (.yield r) a c) (.func (.yield l.b) a' c')
 |nilFunc:cX ρ .nilFunc .nilFunc
 |nilIface:cX ρ .nilIface .nilIface
 |iface (t:TypeId) {v v':Value} (h:cX ρ v v'):cX ρ (.iface t v) (.iface t v')
 |agg {a a':Array Value} (h:cT ρ a.toList a'.toList):cX ρ (.agg a) (.agg a')
 |tuple {a a':Array Value} (h:cT ρ a.toList a'.toList):cX ρ (.tuple a) (.tuple a')
inductive cT (ρ:Ren):List Value->List Value->Prop
 |nil:cT ρ [] []
 |cons {v v':Value} {l l':List Value} (h:cX ρ v v') (t:cT ρ l l'):cT ρ (v::l) (v'::l')
end
mutual
theorem cX.mono{ρ dk:Ren}(hle:ρ.le dk):∀{v v':Value},cX ρ v v'->cX dk v v'
 |_,_,.bool b=>.bool b
 |_,_,.int k n=>.int k n
 |_,_,.string s=>.string s
 |_,_,.Lk=>.Lk
 |_,_,.ptr h=>.ptr (hle _ _ h)
 |_,_,.me=>.me
 |_,_,.jp a a'=>.jp a a'
 |_,_,.slice h hc hb=>.slice (hle _ _ h) hc hb
 |_,_,.Ll=>.Ll
 |_,_,.map h=>.map (hle _ _ h)
 |_,_,.func f h1 h2=>.func f (cT.mono hle h1) (cT.mono hle h2)
 |_,_,.yield h h1 h2=>.yield (hle _ _ h) (cT.mono hle h1) (cT.mono hle h2)
 |_,_,.nilFunc=>.nilFunc
 |_,_,.nilIface=>.nilIface
 |_,_,.iface t h=>.iface t (cX.mono hle h)
 |_,_,.agg h=>.agg (cT.mono hle h)
 |_,_,.tuple h=>.tuple (cT.mono hle h)
theorem cT.mono{ρ dk:Ren}(hle:ρ.le dk):∀{l l':List Value},cT ρ l l'->cT dk l l'
 |_,_,.nil=>.nil
 |_,_,.cons h t=>.cons (cX.mono hle h) (cT.mono hle t)
end
section vs
variable{ρ:Ren}
theorem cT.length{l a:List Value}(b:cT ρ l a):l.length=a.length:=by
 induction l generalizing a with
 |nil=>cases b;rfl
 |cons v l c=>cases b with|cons b t=>simp[c t]
theorem cT.append{f a c b:List Value}(d:cT ρ f a)(h:cT ρ c b):cT ρ (f++c) (a++b):=by
 induction f generalizing a with
 |nil=>cases d;exact h
 |cons v i e=>cases d with|cons d t=>exact .cons d (e t)
theorem cT.get{l c:List Value}(d:cT ρ l c){i:Nat}{v:Value}(a:l[i]?=some v):∃b,c[i]?=some b/\cX ρ v b:=by
 induction l generalizing c i with
 |nil=>simp at a
 |cons j l e=>
  cases d with
  |cons d t=>
   cases i with
   |zero=>simp at a;subst a;exact⟨_,by simp,d⟩
   |succ i=>simp at a;obtain⟨b,h,f⟩:=e t a;exact⟨b,by simpa using h,f⟩
theorem yi{l a:List Value}(c:l.length=a.length)(j:∀(d:Nat) (v:Value),l[d]?=some v->∃b,a[d]?=some b/\cX ρ v b):cT ρ l a:=by
 induction l generalizing a with
 |nil=>cases a with|nil=>exact .nil|cons _ _=>simp at c
 |cons k l h=>
  cases a with
  |nil=>simp at c
  |cons m a=>
   obtain⟨b,e,f⟩:=j 0 k rfl;simp at e;subst e;refine .cons f (h (by simpa using c) fun d v i=>?_);obtain⟨b,e,f⟩:=j (d+1) v (by simpa using i);exact⟨b,by simpa using e,f⟩
theorem cT.take{l a:List Value}(b:cT ρ l a)(n:Nat):cT ρ (l.take n) (a.take n):=by
 induction l generalizing a n with
 |nil=>cases b;cases n<;>exact .nil
 |cons v l c=>cases b with|cons b t=>cases n with
  |zero=>exact .nil
  |succ n=>exact .cons b (c t n)
theorem cT.drop{l a:List Value}(b:cT ρ l a)(n:Nat):cT ρ (l.drop n) (a.drop n):=by
 induction l generalizing a n with
 |nil=>cases b;cases n<;>exact .nil
 |cons v l c=>cases b with|cons b t=>cases n with
  |zero=>exact .cons b t
  |succ n=>exact c t n
theorem cX.cells{v a:Value}(b:cX ρ v a):cT ρ (cellsOf v) a.cells.toList:=by
 cases b<;>first|exact .cons (by constructor<;>assumption) .nil|skip
 all_goals first|assumption|exact .cons (.jp _ _) .nil
theorem cX.fM{v a:Value}(b:cX ρ v a):fM v=fM a:=by
 cases b<;>rfl
end vs
def gB(ρ:Ren)(c:Nat)(b:Tr Value)(e:Array Value):Prop:=
 e.size=c/\∀d v,b.get d=some v->∃a,e[d]?=some a/\cX ρ v a
def mO(ρ:Ren):List MapEntry->List MapEntry->Prop
 |[],[]=>True
 |e::c,a::b=>cX ρ e.key a.key/\cX ρ e.val a.val/\e.born=a.born/\mO ρ c b
 |_,_=>False
structure VG (ρ:Ren) (al:Fg) (lo:Loop):Prop where
 state:lo.state=al.state
 pending:lo.pending=al.pending
 fn:lo.fn=al.fn
 tm:gB ρ al.nt al.tm lo.tmps
 params:lo.params.toList=al.params
 assign:lo.assign=al.assign
 body:lo.body=al.body
 defers:∃l,ρ al.defers=some l/\lo.defers=l.b
 ok:codeOk al.assign=true/\codeOk al.body=true
structure Pc (ρ:Ren) (l:Loc) (c:List Value) (es:Nat) (c':Array Value) (lo hi:Nat):Prop where
 es:l.es=es
 size:c'.size=l.sz
 fits:l.d+c.length<=l.sz
 cell:∀(i:Nat) (v:Value),c[i]?=some v->∃v',c'[l.d+i]?=some v'/\cX ρ v v'
 Lm:l.rw=true->∀i,i<l.sz->¬(lo<=i/\i<hi)
def yj(ρ:Ren)(l:Loc)(o:fX)(co:Option Obj):Prop:=
 match o with
 |.cells c es _ _=>∃e d lo hi,co=some (.cells e d (lo,hi))/\Pc ρ l c es e lo hi
 |.map es a=>∃b,co=some (.map b a)/\mO ρ es b.toList
 |.loop f=>∃lo,co=some (.loop lo)/\VG ρ f lo
 |.eI t=>co=some (.deferred (if t then none else some []))
 |.iter h i=>co=some (.stringIter h i)
 |.j2 _ _ _=>True
 |.dead=>True
def yk(o d:fX)(l a:Loc):Prop:=
 match o,d with
 |.cells _ _ e f,.cells _ _ c b=>e=c/\l.d+b=a.d+f
 |.dead,_=>True
 |_,.dead=>True
 |_,_=>False
def uh(st:St)(b f:Nat):Prop:=
 match st.fm.get f with
 |none=>b=f
 |some a=>b∈a
def afG:fX->Bool
 |.cells _ _ _ _=>true
 |.dead=>true
 |_=>false
structure WF (st:St):Prop where
 lt:∀b o,st.get b=some o->b<st.n
 dP:∀b c e f p,st.get b=some (.cells c e f p)->f<st.n/\uh st b f
 NN:∀f ms,st.fm.get f=some ms->f<st.n
 pos:0<st.n
 zro:∀o,st.get 0=some o->afG o=true
def pQ(w:World)(a:Nat):Option Nat:=
 match w.heap[a]? with
 |some (.cells ⟨[_,v]⟩ _ _)=>v.ownBlock
 |_=>none
structure af3 (N0:Nat) (ρ:Ren) (w:World) (l0:Loc) (T e:TypeId) (s:cq):Prop where
 isb:Lib.IsBuilder T e N0 l0.b (Lib.byteCells s) w
 own:∀g,pQ w l0.b=some g->g<w.heap.size/\∀b l,ρ b=some l->l.b≠g
 zero:l0.d=0
def O7(N0:Nat)(ρ:Ren)(st:St)(w:World):Prop:=
 (∀b d f h e,ρ b=some d->st.get b=some (.j2 f h e)->af3 N0 ρ w d f h e)/\
 ∀b a d c f h e j k i l,ρ b=some d->ρ a=some c->st.get b=some (.j2 f h e)->st.get a=some (.j2 j k i)->b≠a->pQ w d.b=some l->pQ w c.b≠some l
variable{I:Nat}
theorem pW{w w':World}(a:w'.heap[I]?=w.heap[I]?):pQ w' I=pQ w I:=by unfold pQ;rw[a]
variable{N:TypeId}
theorem Vu{w a:World}{j:TypeId}{b:Nat}{xs:List Value}(u:Lib.IsBuilder N j I b xs w)(m:a.heap[b]?=w.heap[b]?)(l:∀d,pQ w b=some d->a.heap[d]?=w.heap[d]?):Lib.IsBuilder N j I b xs a:=by
 have c:∀o,Lib.BuilderAt N j I b o xs w->Lib.BuilderAt N j I b o xs a:=by
  rintro o ⟨t,v,f,⟨q,s⟩,e⟩;have p:pQ w b=v.ownBlock:=by unfold pQ;rw[f]
  refine⟨t,v,by rw[m];exact f,⟨q,s.imp id ?_⟩,e⟩;rintro⟨d,h,i,rfl,n,k,r⟩;exact⟨d,h,i,Z,n,by rw[l d (by rw[p];rfl)];exact k,r⟩
 exact u.imp (c _) (c _)
structure di (w0:World) (N0:Nat) (G:Nat->Prop) (ρ:Ren) (st:St) (w:World):Prop where
 wf:WF st
 below:Below N0 w0 w
 Fi:N0<=w.heap.size
 K1:∀b,G b->ρ b=none/\b<st.n
 xT:∀b l,ρ b=some l->b<st.n/\(b≠0->N0<=l.b/\l.rw=true)/\l.b<w.heap.size
 obj:∀b l o,ρ b=some l->st.get b=some o->yj ρ l o w.heap[l.b]?
 sep:∀b b' l l' o o',ρ b=some l->ρ b'=some l'->l.b=l'.b->st.get b=some o->st.get b'=some o'->b≠b'->yk o o' l l'
 j2:O7 N0 ρ st w
theorem gB.mono{ρ a:Ren}(j:ρ.le a){c:Nat}{b:Tr Value}{h:Array Value}(f:gB ρ c b h):gB a c b h:=
 ⟨f.1,fun k v d=>let⟨e,l,i⟩:=f.2 k v d;⟨e,l,i.mono j⟩⟩
theorem mO.mono{ρ a:Ren}(d:ρ.le a):∀{e b:List MapEntry},mO ρ e b->mO a e b
 |[],[],_=>trivial
 |_::_,_::_,⟨c,v,h,f⟩=>⟨c.mono d,v.mono d,h,mO.mono d f⟩
 |[],_::_,c=>c.elim
 |_::_,[],c=>c.elim
theorem VG.mono{ρ b:Ren}(d:ρ.le b){c:Fg}{lo:Loop}(a:VG ρ c lo):VG b c lo:=
 ⟨a.state,a.pending,a.fn,a.tm.mono d,a.params,a.assign,a.body,let⟨h,f,e⟩:=a.defers;⟨h,d _ _ f,e⟩,a.ok⟩
theorem Pc.mono{ρ a:Ren}(i:ρ.le a){l:Loc}{c:List Value}{es:Nat}{d:Array Value}{lo hi:Nat}(b:Pc ρ l c es d lo hi):Pc a l c es d lo hi:=
 ⟨b.es,b.size,b.fits,fun j v e=>let⟨f,k,h⟩:=b.cell j v e;⟨f,k,h.mono i⟩,b.Lm⟩
theorem yj.mono{ρ a:Ren}(j:ρ.le a){l:Loc}{o:fX}{co:Option Obj}(f:yj ρ l o co):yj a l o co:=by
 cases o with
 |cells c es q n=>obtain⟨k,b,lo,hi,d,e⟩:=f;exact⟨k,b,lo,hi,d,e.mono j⟩
 |map es i=>obtain⟨h,d,e⟩:=f;exact⟨h,d,e.mono j⟩
 |loop m=>obtain⟨lo,d,e⟩:=f;exact⟨lo,d,e.mono j⟩
 |eI t=>exact f
 |iter s n=>exact f
 |j2 p d s=>trivial
 |dead=>trivial
def Ren.add(ρ:Ren)(b:Nat)(l:Loc):Ren:=fun a=>if a=b then some l else ρ a
theorem ei{ρ:Ren}{b:Nat}{l:Loc}(e:ρ b=none):ρ.le (ρ.add b l):=by
 intro d f c;unfold Ren.add;by_cases a:d=b
 ·subst a;rw[e]at c;cases c
 ·rw[if_neg a];exact c
theorem c7(ρ:Ren)(b:Nat)(l:Loc):(ρ.add b l) b=some l:=if_pos rfl
theorem dU(ρ:Ren){b a:Nat}(l:Loc)(c:a≠b):(ρ.add b l) a=ρ a:=if_neg c
theorem dm(st:St)(o:fX)(b:Nat):(st.new o).get b=if b=st.n then some o else st.get b:=cB _ _ _ _
theorem c8(st:St)(a:Nat)(o:fX)(b:Nat):(st.put a o).get b=if b=a then some o else st.get b:=cB _ _ _ _
def ui(st:St):fX->Prop
 |.cells _ _ a _=>a=st.n
 |_=>True
theorem WF.new{st:St}(h:WF st){o:fX}(k:ui st o):WF (st.new o):=by
 have i:st.fm.get st.n=none:=by
  cases m:st.fm.get st.n with
  |none=>rfl
  |some e=>exact absurd (h.NN _ _ m) (Nat.lt_irrefl _)
 refine⟨fun b l a=>?_,fun b c m f n a=>?_,fun f e j=>agC (h.NN f e j),Nat.succ_pos _,fun l a=>?_⟩
 ·rw[dm]at a;show b<st.n+1;by_cases d:b=st.n
  ·omega
  ·rw[if_neg d]at a;exact agC (h.lt _ _ a)
 ·rw[dm]at a;show f<st.n+1/\uh (st.new o) b f;by_cases d:b=st.n
  ·rw[if_pos d]at a;cases a;have:f=st.n:=k;subst this;refine⟨Nat.lt_succ_self _,?_⟩;show match st.fm.get st.n with|none=>b=st.n|some e=>b∈e
   rw[i];exact d
  ·rw[if_neg d]at a;have:=h.dP _ _ _ _ _ a;exact⟨agC this.1,this.2⟩
 ·rw[dm,if_neg (by have:=h.pos;omega)]at a;exact h.zro _ a
theorem Yy{st:St}(e:WF st){b:Nat}{c:fX}(d:afG c=true):∀o,(st.put b c).get 0=some o->afG o=true:=by
 intro o a;rw[c8]at a;split at a
 ·cases a;exact d
 ·exact e.zro _ a
variable{M:Nat×Nat} {S:Program}
section
variable{w0:World} {N0:Nat} {G:Nat->Prop} {ρ:Ren} {st:St} {w:World}
theorem O7.H0(Y:O7 N0 ρ st w)(z:∀b n a q o L,ρ b=some a->ρ n=some q->a.b=q.b->st.get b=some o->st.get n=some L->b≠n->yk o L a q){j:Ren}{dC:St}{m:World}(X:Nat->Prop)(P:∀b a,ρ b=some a->a.b<w.heap.size) 
  (ad:w.heap.size<=m.heap.size) (I:∀y,y<w.heap.size->¬X y->m.heap[y]?=w.heap[y]?)
  (g:∀y,X y->∃b a o,ρ b=some a/\a.b=y/\st.get b=some o/\o≠.dead/\∀p r s,o≠.j2 p r s)
  (Q:∀b a,j b=some a->ρ b=some a∨w.heap.size<=a.b∨∃B A,ρ B=some A/\A.b=a.b)
  (C:∀b a p r s,j b=some a->dC.get b=some (.j2 p r s)->ρ b=some a/\st.get b=some (.j2 p r s)):O7 N0 j dC m:=by
 have k:∀b a p r s,ρ b=some a->st.get b=some (.j2 p r s)->m.heap[a.b]?=w.heap[a.b]?:=by
  intro b a p r s e d;refine I _ (P _ _ e) fun G=>?_;obtain⟨R,V,o,D,x,K,N,U⟩:=g _ G;have i:R≠b:=fun F=>by subst F;rw[d]at K;cases K;exact U _ _ _ rfl
  have:=z _ _ _ _ _ _ D e x K d i;cases o<;>first|exact this.elim|exact N rfl
 refine⟨fun b a p r s e d=>?_,fun b n a q p r s ae F aa W e J d H i c=>?_⟩
 ·obtain⟨h,l⟩:=C _ _ _ _ _ e d;have T:=k _ _ _ _ _ h l;obtain⟨S,v,O⟩:=Y.1 _ _ _ _ _ h l;refine⟨Vu S T fun W c=>I _ (v _ c).1 fun G=>?_,fun W c=>?_,O⟩
  ·obtain⟨R,V,o,D,x,_⟩:=g _ G;exact(v _ c).2 _ _ D x
  ·rw[pW T]at c;obtain⟨ab,E⟩:=v _ c;refine⟨om,fun ac af f=>?_⟩;rcases Q _ _ f with f|f|⟨B,A,f,M⟩
   ·exact E _ _ f
   ·omega
   ·rw[<-M];exact E _ _ f
 ·obtain⟨h,l⟩:=C _ _ _ _ _ e d;obtain⟨u,t⟩:=C _ _ _ _ _ J H;rw[pW (k _ _ _ _ _ h l)]at c;rw[pW (k _ _ _ _ _ u t)];exact Y.2 _ _ _ _ _ _ _ _ _ _ _ h u l t i c
theorem di.ij(b:di w0 N0 G ρ st w):ρ st.n=none:=by
 cases a:ρ st.n with
 |none=>rfl
 |some c=>exact absurd (b.xT _ _ a).1 (Nat.lt_irrefl _)
theorem di.afV(h:di w0 N0 G ρ st w){o:fX}{co:Obj}{l:Loc}(s:l.b=w.heap.size)(r:ui st o)(t:yj (ρ.add st.n l) l o (some co))(q:l.rw=true)(x:O7 N0 (ρ.add st.n l) (st.new o) {w with heap:=w.heap.push co}):
  di w0 N0 G (ρ.add st.n l) (st.new o) {w with heap:=w.heap.push co}:=by
 have n:=ei (l:=l) h.ij;have c:∀j,j<w.heap.size->(w.heap.push co)[j]?=w.heap[j]?:=fun j p=>by
  rw[agz,if_neg om]
 refine⟨h.wf.new r,?_,?_,?_,?_,?_,?_,x⟩
 ·refine h.below.trans ⟨Z,Z,Z,by simp,fun j p=>c j (by have:=h.Fi;omega)⟩
 ·show N0<=(w.heap.push co).size;have:=h.Fi;simp;omega
 ·intro y v;have:=h.K1 y v;exact⟨by rw[dU _ _ om];exact this.1,agC this.2⟩
 ·intro b e a;show b<st.n+1/\(b≠0->N0<=e.b/\e.rw=true)/\e.b<(w.heap.push co).size;by_cases k:b=st.n
  ·subst k;rw[c7]at a;cases a;have:=h.Fi;refine⟨Nat.lt_succ_self _,fun _=>⟨om,q⟩,by simp;omega⟩
  ·rw[dU _ _ k]at a;have:=h.xT _ _ a;exact⟨om,this.2.1,by simp;omega⟩
 ·intro b e u a f;show yj _ e u (w.heap.push co)[e.b]?;rw[dm]at f;by_cases k:b=st.n
  ·subst k;rw[c7]at a;cases a;rw[if_pos rfl]at f;cases f;rw[s,agN];exact t
  ·rw[dU _ _ k]at a;rw[if_neg k]at f;rw[c _ (h.xT _ _ a).2.2];exact(h.obj _ _ _ a f).mono n
 ·intro b m C D A z h1 h2 he g1 g2 BM;rw[dm]at g1 g2;by_cases i:b=st.n
  ·by_cases d:m=st.n
   ·exact absurd (i.trans d.symm) BM
   ·subst i;rw[c7]at h1;cases h1;rw[dU _ _ d]at h2;have:=(h.xT _ _ h2).2.2;omega
  ·by_cases d:m=st.n
   ·subst d;rw[c7]at h2;cases h2;rw[dU _ _ i]at h1;have:=(h.xT _ _ h1).2.2;omega
   ·rw[dU _ _ i]at h1;rw[dU _ _ d]at h2;rw[if_neg i]at g1;rw[if_neg d]at g2;exact wk
theorem di.new(h:di w0 N0 G ρ st w){o:fX}{co:Obj}{l:Loc}(k:l.b=w.heap.size)(j:ui st o)(n:yj (ρ.add st.n l) l o (some co))(i:l.rw=true:=by rfl)(f:∀q d s,o≠.j2 q d s:=by intro _ _ _ h;cases h):
  di w0 N0 G (ρ.add st.n l) (st.new o) {w with heap:=w.heap.push co}:=by
 refine h.afV k j n i (h.j2.H0 h.sep (fun _=>False) (fun b l d=>(h.xT _ _ d).2.2) sm (fun t r _=>by show(w.heap.push co)[t]?=_;rw[agz,if_neg om]) (fun _ p=>p.elim) (fun b m d=>?_) (fun b m q d s e c=>?_))
 ·by_cases a:b=st.n
  ·subst a;rw[c7]at d;cases d;exact .inr (.inl om)
  ·rw[dU _ _ a]at d;exact .inl d
 ·rw[dm]at c;by_cases a:b=st.n
  ·rw[if_pos a]at c;cases c;exact absurd Z (f _ _ _)
  ·rw[if_neg a]at c;rw[dU _ _ a]at e;exact⟨e,c⟩
theorem Rl{w:World}{p:Value}(a:w.heap[I]?=some (.cells #[p,.slice none 0 0] N M)):pQ w I=none:=by unfold pQ;rw[a];rfl
theorem di.af4(h:di w0 N0 G ρ st w)(T y:TypeId):
  di w0 N0 G (ρ.add st.n ⟨w.heap.size,0,0,0,true⟩) (st.new (.j2 T y [])) {w with heap:=w.heap.push (.cells #[.pointer none,.slice none 0 0] T)}:=by
 have hat:(w.heap.push (.cells #[.pointer none,.slice none 0 0] T))[w.heap.size]?=some (.cells #[.pointer none,.slice none 0 0] T):=agN;have a:∀q,q<w.heap.size->(w.heap.push (.cells #[.pointer none,.slice none 0 0] T))[q]?=w.heap[q]?:=fun q C=>by rw[agz,if_neg om]
 refine h.afV Z trivial trivial Z ⟨fun b E R K s c d=>?_,fun b r E B A f P F i D p c e d j m hg=>?_⟩
 ·rw[dm]at d;by_cases f:b=st.n
  ·subst f;rw[if_pos rfl]at d;cases d;rw[c7]at c;cases c;refine⟨.inl ⟨h.Fi,.slice none 0 0,hat,⟨Z,.inl ⟨Z,Z⟩⟩,by simp[Value.ownBlock]⟩,fun p hg=>?_,Z⟩;exact ON
  ·rw[if_neg f]at d;rw[dU _ _ f]at c;obtain⟨x,o,u⟩:=h.j2.1 _ _ _ _ _ c d;have l:=(h.xT _ _ c).2.2;refine⟨Vu x (a _ l) fun p hg=>a _ (o _ hg).1,fun p hg=>?_,u⟩;rw[pW (w':={w with heap:=w.heap.push (.cells #[.pointer none,.slice none 0 0] T)}) (a _ l)]at hg;obtain⟨z,t⟩:=o _ hg;refine⟨by simp;omega,fun v g k=>?_⟩;by_cases i:v=st.n
   ·subst i;rw[c7]at k;cases k;exact fun y=>by have:w.heap.size=p:=y;omega
   ·rw[dU _ _ i]at k;exact t _ _ k
 ·rw[dm]at d j;by_cases f:b=st.n
  ·subst f;rw[c7]at c;cases c;exact ON
  ·rw[if_neg f]at d;rw[dU _ _ f]at c;by_cases i:r=st.n
   ·subst i;rw[c7]at e;cases e;rw[Rl (w:={w with heap:=w.heap.push (.cells #[.pointer none,.slice none 0 0] T)}) hat];simp
   ·rw[if_neg i]at j;rw[dU _ _ i]at e;rw[pW (w':={w with heap:=w.heap.push (.cells #[.pointer none,.slice none 0 0] T)}) (a _ (h.xT _ _ c).2.2)]at hg;rw[pW (w':={w with heap:=w.heap.push (.cells #[.pointer none,.slice none 0 0] T)}) (a _ (h.xT _ _ e).2.2)];exact h.j2.2 _ _ _ _ _ _ _ _ _ _ _ c e d j m hg
theorem di.Sr(c:di w0 N0 G ρ st w){h:World}(a:Below w.heap.size w h):di w0 N0 G ρ st h:=by
 refine⟨c.wf,c.below.trans (a.mono c.Fi),Nat.le_trans c.Fi a.size,c.K1,fun b k d=>?_,fun b k o d l=>?_,c.sep,c.j2.H0 c.sep (fun _=>False) (fun b k d=>(c.xT _ _ d).2.2) a.size (fun m i _=>a.block m i) (fun _ j=>j.elim) (fun _ _ d=>.inl d) (fun _ _ _ _ _ f e=>⟨f,e⟩)⟩
 ·obtain⟨f,e,n⟩:=c.xT _ _ d;have:=a.size;exact⟨f,e,om⟩
 ·rw[a.block _ (c.xT _ _ d).2.2];exact c.obj _ _ _ d l
theorem o8{b o n:Nat}{c:List Value}(d:gq st b o n=some c):
  ∃a es f i,st.get b=some (.cells a es f i)/\o+n<=a.length/\c=(a.drop o).take n:=by
 unfold gq at d;split at d
 ·rename_i a es f i h;split at d
  ·rename_i e;refine⟨a,es,f,i,h,?_,?_⟩
   ·exact agk e
   ·simpa using d.symm
  ·cases d
 ·cases d
theorem fk{b o n:Nat}{c:List Value}(d:gq st b o n=some c):c.length=n:=by
 obtain⟨e,es,f,h,_,a,rfl⟩:=o8 d;simp;omega
theorem run_load{w:World}{a:Addr}{v:Value}(b:w.cell? a=some v):(load a).run S w=.ok v w:=by
 simp[load,Sem.run,b]
theorem cb{f q:Type}{w k:World}{s:Sem f}{u:f}(r:f->Sem q)(h:s.run S w=.ok u k):(s>>=r).run S w=(r u).run S k:=by
 show(s.bind r).run S w=_;induction s generalizing w with
 |pure l=>simp only[Sem.run]at h;cases h;rfl
 |load o d b a=>
  simp only[Sem.bind,Sem.run]at h⊢;cases m:w.cell? d with
  |some v=>rw[m]at h;exact a v h
  |none=>
   rw[m]at h;simp only at h⊢;cases e:w.farLoad S d (o==.atomic)with
   |ok j=>rw[e]at h;exact a j.1 h
   |error l=>rw[e]at h;cases h
 |store o d v b a=>
  cases v with
  |agg l=>simp[Sem.run]at h
  |tuple l=>simp[Sem.run]at h
  |_=>
   simp only[Sem.bind,Sem.run]at h⊢;cases m:w.cell? d with
   |some v=>
    rw[m]at h;simp only at h⊢;split at h
    ·cases h
    ·rename_i p;rw[if_neg p];exact a h
   |none=>
    rw[m]at h;simp only at h⊢;cases e:w.farStore S d _ (o==.atomic)with
    |ok j=>rw[e]at h;exact a h
    |error l=>rw[e]at h;cases h
 |new t b a=>simp only[Sem.bind,Sem.run]at h⊢;exact a _ h
 |shape j b a=>simp only[Sem.bind,Sem.run]at h⊢;exact a _ h
 |freeze d n b a=>simp only[Sem.bind,Sem.run]at h⊢;exact a h
 |frozen d b a=>simp only[Sem.bind,Sem.run]at h⊢;exact a _ h
 |getObj j b a=>
  simp only[Sem.bind,Sem.run]at h⊢;split at h
  ·cases h
  ·exact a _ h
  ·cases h
 |setObj j t b a=>
  simp only[Sem.bind,Sem.run]at h⊢;split at h
  ·cases h
  ·exact a h
  ·cases h
 |choose x b a=>
  simp only[Sem.bind,Sem.run]at h⊢;split at h
  ·rename_i i;rw[if_pos i];exact a _ h
  ·rename_i i;rw[if_neg i];exact a _ h
 |sys c b a=>simp only[Sem.bind,Sem.run]at h⊢;exact a _ h
 |program b a=>simp only[Sem.bind,Sem.run]at h⊢;exact a _ h
 |mark o b a=>simp only[Sem.bind,Sem.run]at h⊢;exact a h
 |halt l=>simp[Sem.run]at h
theorem cell_of{w:World}{b:Nat}{c:Array Value}(d:w.heap[b]?=some (.cells c N M))(a:Nat):w.cell? ⟨b,a,none⟩=c[a]?:=by
 simp[World.cell?,d]
theorem kS(b o n:Nat):(⟨b,o,none⟩:Addr).add n=⟨b,o+n,none⟩:=by
 unfold Addr.add;split
 ·rename_i a;subst a;rfl
 ·rfl
theorem run_loadCellsFrom{P:Program}{w:World}{b o:Nat}{c:Array Value}(k:w.heap[b]?=some (.cells c N M)):
  ∀(n d:Nat) (a:Array Value),o+d+n<=c.size->(loadCellsFrom ⟨b,o,none⟩ d n a).run P w=.ok ⟨a.toList++(c.toList.drop (o+d)).take n⟩ w:=by
 intro n;induction n with
 |zero=>intro d a _;simp[loadCellsFrom,pure]
 |succ n h=>
  intro d a j;have e:o+d<c.size:=om;have i:w.cell? ((⟨b,o,none⟩:Addr).add d)=some c[o+d]:=by rw[kS,cell_of k];exact agL e
  rw[loadCellsFrom,cb _ (run_load i),h (d+1) (a.push c[o+d]) om];have f:c.toList.drop (o+d)=c[o+d]::c.toList.drop (o+(d+1)):=by
   rw[List.drop_eq_getElem_cons (by simpa using e)];rfl
  rw[f];simp
theorem run_loadCells{w:World}{b o n:Nat}{c:Array Value}(d:w.heap[b]?=some (.cells c N M))(a:o+n<=c.size):
  (loadCells ⟨b,o,none⟩ n).run S w=.ok ⟨(c.toList.drop o).take n⟩ w:=by
 have:=run_loadCellsFrom (P:=S) (o:=o) d n 0 #[] om;simpa [loadCells]using this
theorem Pc.slice{l:Loc}{c:List Value}{es:Nat}{d:Array Value}{lo hi:Nat}(f:Pc ρ l c es d lo hi){o n:Nat}(h:o+n<=c.length):
  cT ρ ((c.drop o).take n) ((d.toList.drop (l.d+o)).take n):=by
 have i:=f.size;have j:=f.fits;refine yi (by simp;omega) fun p v a=>?_;rw[agS]at a⊢;split at a
 ·rename_i b;rw[if_pos b];rw[agT]at a⊢;obtain⟨e,m,k⟩:=f.cell _ _ a;refine⟨e,?_,k⟩;rw[agl,<-m];congr 1;omega
 ·cases a
theorem di.read(q:di w0 N0 G ρ st w){b o n:Nat}{c:List Value}{l:Loc}(i:ρ b=some l)(f:gq st b o n=some c)(s:Program):
  ∃a,(loadCells ⟨l.b,l.d+o,none⟩ n).run s w=.ok a w/\cT ρ c a.toList:=by
 obtain⟨r,es,t,u,h,d,rfl⟩:=o8 f;obtain⟨a,j,lo,hi,m,e⟩:=q.obj _ _ _ i h;have k:=e.size;have p:=e.fits;refine⟨_,run_loadCells m om,?_⟩;exact e.slice d
theorem mf:∀(c:List Value) (n:Nat) (a:List Value),(dw c n a).length=c.length:=by
 intro c;induction c with
 |nil=>intro n a;cases a<;>rfl
 |cons d c b=>
  intro n a;cases a with
  |nil=>rfl
  |cons v a=>cases n<;>simp[dw,b]
theorem nW:∀(c:List Value) (n:Nat) (a:List Value) (b:Nat),n+a.length<=c.length->(dw c n a)[b]?=if n<=b/\b<n+a.length then a[b-n]? else c[b]?:=by
 intro c;induction c with
 |nil=>
  intro n a b e;cases a with
  |nil=>simp only[dw,agE];rw[if_neg om]
  |cons v a=>simp at e
 |cons f c d=>
  intro n a b e;cases a with
  |nil=>simp only[dw,agE];rw[if_neg om]
  |cons v a=>
   simp only[agr]at e⊢;cases n with
   |zero=>
    cases b with
    |zero=>simp[dw]
    |succ b=>
     simp only[dw,agO];rw[d 0 a b om];by_cases hi:b<a.length
     ·rw[if_pos om,if_pos om];simp
     ·rw[if_neg om,if_neg om]
   |succ n=>
    cases b with
    |zero=>simp[dw]
    |succ b=>
     simp only[dw,agO];rw[d n (v::a) b (by simp;omega)];simp only[agr];by_cases hi:n<=b/\b<n+(a.length+1)
     ·rw[if_pos hi,if_pos om,show b+1-(n+1)=b-n from by omega]
     ·rw[if_neg hi,if_neg om]
structure aaw (w w':World) (b:Nat) (c:Array Value) (e:TypeId) (fz:Nat×Nat) (o:Nat) (vs:List Value):Prop where
 os:w'.os=w.os
 tape:w'.tape=w.tape
 output:w'.output=w.output
 size:w'.heap.size=w.heap.size
 other:∀k,k≠b->w'.heap[k]?=w.heap[k]?
 here:∃c',w'.heap[b]?=some (.cells c' e fz)/\c'.size=c.size/\∀i:Nat,c'[i]?=if o<=i/\i<o+vs.length then vs[i-o]? else c[i]?
theorem Ln{P:Program}{w:World}{b o:Nat}{v:Value}{c:Array Value}{lo hi:Nat}(j:w.heap[b]?=some (.cells c N (lo,hi)))(f:o<c.size)(d:¬(lo<=o/\o<hi)) 
  (h:fM v=true):(store ⟨b,o,none⟩ v).run P w=.ok () (w.setCell ⟨b,o,none⟩ v):=by
 have i:w.cell? ⟨b,o,none⟩=some c[o]:=by rw[cell_of j];exact agL f
 have e:w.frozen? ⟨b,o,none⟩=false:=by
  simp only[World.frozen?,j];cases a:(decide (lo<=o)&&decide (o<hi))with
  |false=>rfl
  |true=>simp at a;exact absurd a d
 cases v<;>first|(simp[fM]at h;done)|simp[store,Sem.run,i,e]
theorem Lo{w:World}{b o:Nat}{v:Value}{c:Array Value}(e:w.heap[b]?=some (.cells c N M)):
  (w.setCell ⟨b,o,none⟩ v).heap[b]?=some (.cells (c.setIfInBounds o v) N M)/\(∀a,a≠b->(w.setCell ⟨b,o,none⟩ v).heap[a]?=w.heap[a]?)/\(w.setCell ⟨b,o,none⟩ v).heap.size=w.heap.size:=by
 refine⟨?_,fun a d=>Below.heap_setCell _ _ _ _ d,by simp[World.setCell]⟩;simp only[World.setCell,Array.getElem?_modify,e];simp
theorem uj{P:Program}:∀(d:List Value) (w:World) (b o e:Nat) (c:Array Value) (p:TypeId) (lo hi:Nat),w.heap[b]?=some (.cells c p (lo,hi))->o+e+d.length<=c.size->
  (∀f,o+e<=f->f<o+e+d.length->¬(lo<=f/\f<hi))->(∀v∈d,fM v=true)->
  ∃i,(storeCells ⟨b,o,none⟩ d e).run P w=.ok () i/\aaw w i b c p (lo,hi) (o+e) d:=by
 intro d;induction d with
 |nil=>
  intro w b o e c p lo hi q _ _ _;refine⟨w,by simp[storeCells,pure],Z,Z,Z,Z,fun _ _=>Z,c,q,Z,fun f=>?_⟩;simp only[agE];rw[if_neg om]
 |cons v d D=>
  intro w b o e c p lo hi q n a j;simp only[agr]at n a;have m:=Ln (P:=P) (v:=v) q (o:=o+e) om (a _ om om) (j v sm);obtain⟨x,s,z⟩:=Lo (o:=o+e) (v:=v) q;obtain⟨i,u,h⟩:=D (w.setCell ⟨b,o+e,none⟩ v) b o (e+1) _ p lo hi x (by simp;omega) (fun f m R=>a f om om) (fun T y=>j T (by simp[y]));refine⟨i,?_,?_⟩
  ·rw[storeCells,kS,cb _ m];exact u
  ·obtain⟨r,A,t,C⟩:=h.here;refine⟨h.os,h.tape,h.output,h.size.trans z,fun K l=>(h.other K l).trans (s K l),r,A,by simpa using t,fun f=>?_⟩;rw[C];simp only[agr];by_cases G:f=o+e
   ·subst G;rw[if_neg om,if_pos om,agR,Array.getElem?_setIfInBounds_self_of_lt om];rfl
   ·by_cases k:o+(e+1)<=f/\f<o+(e+1)+d.length
    ·rw[if_pos k,if_pos om,show f-(o+e)=(f-(o+(e+1)))+1 from by omega];rfl
    ·rw[if_neg k,if_neg om,Array.getElem?_setIfInBounds_ne om]
end
theorem uk(b lo hi:Nat):∀(e:List Nat) (a:Tr fX),
  (∀d,(eh b lo hi e a).1.get d=a.get d∨((eh b lo hi e a).1.get d=some .dead/\d≠b/\∃c m l h,a.get d=some (.cells c m l h)/\overlaps h c.length lo hi=true))/\
  (∀d,d∈e->d≠b->∀c m l h,(eh b lo hi e a).1.get d=some (.cells c m l h)->overlaps h c.length lo hi=false)/\
  (∀d,d∈e->d∈(eh b lo hi e a).2∨(eh b lo hi e a).1.get d=some .dead):=by
 intro e;induction e with
 |nil=>intro a;exact⟨fun _=>.inl rfl,fun _ f=>by simp at f,fun _ f=>by simp at f⟩
 |cons n e D=>
  intro a;have k:∀(C:n≠b->∀c m l h,a.get n=some (.cells c m l h)->overlaps h c.length lo hi=false),
    (∀d,(eh b lo hi e a).1.get d=a.get d∨((eh b lo hi e a).1.get d=some .dead/\d≠b/\∃c m l h,a.get d=some (.cells c m l h)/\overlaps h c.length lo hi=true))/\
    (∀d,d∈n::e->d≠b->∀c m l h,(eh b lo hi e a).1.get d=some (.cells c m l h)->overlaps h c.length lo hi=false)/\
    (∀d,d∈n::e->d∈n::(eh b lo hi e a).2∨(eh b lo hi e a).1.get d=some .dead):=by
   intro C;obtain⟨r,u,v⟩:=D a;refine⟨r,fun d hx p c m l h i=>?_,fun d hx=>?_⟩
   ·rcases agw.1 hx with rfl|hx
    ·rcases r d with f|⟨f,_⟩
     ·exact C p c m l h (f▸i)
     ·rw[f]at i;cases i
    ·exact u d hx p c m l h i
   ·rcases agw.1 hx with rfl|hx
    ·exact .inl sm
    ·exact(v d hx).imp (fun f=>by simp[f]) id
  unfold eh;cases s:agj n b with
  |true=>
   simp only;have:n=b:=agm s;exact k fun f=>absurd this f
  |false=>
   have p:n≠b:=agQ s;simp only;cases i:a.get n with
   |none=>simp only;exact k fun _ c m l h f=>by rw[i]at f;cases f
   |some o=>
    cases o with
    |cells c m l h=>
     simp only;cases y:overlaps h c.length lo hi with
     |false=>
      simp only;exact k fun _ w x A G f=>by rw[i]at f;cases f;exact y
     |true=>
      simp only;obtain⟨r,u,v⟩:=D (a.set n .dead);have j:(eh b lo hi e (a.set n .dead)).1.get n=some .dead:=by
       rcases r n with f|⟨f,_⟩
       ·rw[f,cB,if_pos rfl]
       ·exact f
      refine⟨fun d=>?_,fun d hx z w x A G q=>?_,fun d hx=>?_⟩
      ·by_cases t:d=n
       ·subst t;exact .inr ⟨j,p,c,m,l,h,i,y⟩
       ·have K:(a.set n .dead).get d=a.get d:=by rw[cB,if_neg t]
        have:=r d;rw[K]at this;exact this
      ·rcases agw.1 hx with rfl|hx
       ·rw[j]at q;cases q
       ·exact u d hx z w x A G q
      ·rcases agw.1 hx with rfl|hx
       ·exact .inr j
       ·exact v d hx
    |_=>simp only;exact k fun _ c m l h f=>by rw[i]at f;cases f
variable{Y:List Nat}
section
variable{st:St} {dP b lo hi:Nat}
theorem gM:(st.kill dP b lo hi).n=st.n:=by
 unfold St.kill;split<;>rfl
theorem ul(a:Nat):(st.kill dP b lo hi).get a=st.get a∨((st.kill dP b lo hi).get a=some .dead/\a≠b/\∃c f e d,st.get a=some (.cells c f e d)/\overlaps d c.length lo hi=true):=by
 unfold St.kill;split
 ·exact .inl Z
 ·exact(uk b lo hi _ st.hp).1 a
theorem Gn:(st.kill dP b lo hi).get b=st.get b:=by
 rcases ul (st:=st) (dP:=dP) (b:=b) (lo:=lo) (hi:=hi) b with a|⟨_,a,_⟩
 ·exact a
 ·exact absurd Z a
theorem wG(d:st.fm.get dP=some Y)(h:I∈Y)(e:I≠b){c:List Value}{i f p:Nat} 
  (a:(st.kill dP b lo hi).get I=some (.cells c i f p)):overlaps p c.length lo hi=false:=by
 unfold St.kill at a;rw[d]at a;exact(uk b lo hi Y st.hp).2.1 I h e c i f p a
theorem kh{o:fX}(c:(st.kill dP b lo hi).get I=some o):o=.dead∨st.get I=some o:=by
 rcases ul (st:=st) (dP:=dP) (b:=b) (lo:=lo) (hi:=hi) I with a|⟨a,_⟩
 ·exact .inr (a▸c)
 ·rw[a]at c;cases c;exact .inl rfl
theorem gD(a:st.fm.get dP=none):st.kill dP b lo hi=st:=by
 unfold St.kill;rw[a]
theorem ik(a:st.fm.get dP=some Y):st.kill dP b lo hi={st with hp:=(eh b lo hi Y st.hp).1,fm:=st.fm.set dP (eh b lo hi Y st.hp).2}:=by
 unfold St.kill;rw[a]
theorem WF.kill(k:WF st):WF (st.kill dP b lo hi):=by
 cases a:st.fm.get dP with
 |none=>rw[gD a];exact k
 |some m=>
  refine⟨fun p o f=>?_,fun p c l n r f=>?_,fun n q e=>?_,by rw[gM];exact k.pos,fun o f=>(kh f).elim (fun l=>by rw[l];rfl) (k.zro _)⟩
  ·rw[gM];rcases ul (st:=st) (dP:=dP) (b:=b) (lo:=lo) (hi:=hi) p with l|⟨_,_,c,i,n,r,l,_⟩
   ·exact k.lt _ _ (l▸f)
   ·exact k.lt _ _ l
  ·rcases kh f with i|i
   ·cases i
   ·have e:=k.dP _ _ _ _ _ i;refine⟨by rw[gM];exact e.1,?_⟩;have h:=e.2;unfold uh at h⊢;rw[ik a]at f⊢;simp only[cB];by_cases d:n=dP
    ·subst d;rw[if_pos rfl];rw[a]at h;rcases(uk b lo hi m st.hp).2.2 p h with h1|h1
     ·exact h1
     ·exfalso;have j:(eh b lo hi m st.hp).1.get p=some (.cells c l n r):=f;rw[h1]at j;cases j
    ·rw[if_neg d];exact h
  ·rw[gM];rw[ik a]at e;simp only[cB]at e;by_cases d:n=dP
   ·subst d;exact k.NN _ _ a
   ·rw[if_neg d]at e;exact k.NN _ _ e
theorem um{fo b lo hi:Nat}(a:overlaps fo b lo hi=false):hi<=fo∨fo+b<=lo:=by
 unfold overlaps at a;rcases agA fo hi with h1|h1
 ·rcases agA lo (fo+b)with h2|h2
  ·rw[agv.mpr h1,agv.mpr h2]at a;cases a
  ·exact .inr h2
 ·exact .inl h1
theorem WF.BR(h:WF st){c a:List Value}{d f p:Nat}(hg:st.get b=some (.cells c d f p)):WF (st.put b (.cells a d f p)):=by
 refine⟨fun x o hx=>?_,fun x j i f1 e hx=>?_,h.NN,h.pos,Yy h Z⟩
 ·exact Ny
 ·rw[c8]at hx;by_cases Vr:x=b
  ·subst Vr;rw[if_pos rfl]at hx;cases hx;exact h.dP _ _ _ _ _ hg
  ·rw[if_neg Vr]at hx;exact h.dP _ _ _ _ _ hx
end
variable{H:List Value}
section
variable{w0:World} {N0:Nat} {G:Nat->Prop} {ρ:Ren} {st:St} {w:World}
theorem cT.NO{b:List Value}(d:cT ρ H b)(c:H.all fM=true):∀v∈b,fM v=true:=by
 induction H generalizing b with
 |nil=>cases d;intro v a;simp at a
 |cons f H e=>
  cases d with
  |cons d t=>
   simp only[agP,ago]at c;intro v a;rcases agw.1 a with rfl|a
   ·rw[<-d.fM];exact c.1
   ·exact e t c.2 v a
theorem kT{b o:Nat}{dC:St}(d:fY st b o H=some dC):
  ∃c es f e,st.get b=some (.cells c es f e)/\o+H.length<=c.length/\H.all fM=true/\b≠0/\
   dC=(st.put b (.cells (dw c o H) es f e)).kill f b (e+o) (e+o+H.length):=by
 unfold fY at d;split at d
 ·rename_i c es f e h;split at d
  ·rename_i a;rw[ago,ago]at a;exact⟨c,es,f,e,h,agk a.1.1,a.1.2,fun i=>by subst i;exact absurd a.2 dc,by simpa using d.symm⟩
  ·cases d
 ·cases d
theorem di.write(j:di w0 N0 G ρ st w){b o:Nat}{D:List Value}{dC:St}{l:Loc}(z:ρ b=some l)(ak:fY st b o H=some dC)(S:cT ρ H D)(am:Program):
  ∃K,(storeCells ⟨l.b,l.d+o,none⟩ D).run am w=.ok () K/\di w0 N0 G ρ dC K/\dC.n=st.n:=by
 obtain⟨c,es,X,ag,t,ae,ad,ab,rfl⟩:=kT ak;obtain⟨aG,W⟩:=(j.xT _ _ z).2.1 ab;obtain⟨c',u,lo,hi,m,R⟩:=j.obj _ _ _ z t;have ai:=S.length;have ay:=R.size;have N:=R.fits;obtain⟨K,ar,q⟩:=uj (P:=am) D w l.b (l.d+o) 0 c' u lo hi m om (fun aC h1 h2=>R.Lm W aC om) (S.NO ad);obtain⟨I,Y,aj,ac⟩:=q.here;have ao:=j.xT _ _ z;have au:=j.Fi;have af:=q.size;refine⟨K,ar,?_,by rw[gM];rfl⟩;have av:O7 N0 ρ ((st.put b (.cells (dw c o H) es X ag)).kill X b (ag+o) (ag+o+H.length)) K:=by
  refine j.j2.H0 j.sep (fun R=>R=l.b) (fun b l m=>(j.xT _ _ m).2.2) om (fun R _ U=>q.other R U) (fun R U=>⟨b,l,_,z,U.symm,t,by(intro m;cases m),by(intro _ _ _ m;cases m)⟩) (fun _ _ m=>.inl m) (fun g B aI m s h1 h2=>⟨h1,?_⟩);have h2:=(kh h2).resolve_left (by intro m;cases m);rw[c8]at h2;split at h2
  ·cases h2
  ·exact h2
 refine⟨(j.wf.BR t).kill,?_,om,fun g d=>by rw[gM];exact j.K1 g d,?_,?_,?_,av⟩
 ·exact j.below.trans ⟨q.os,q.tape,q.output,om,fun g d=>q.other g om⟩
 ·intro g B d;rw[gM];have:=j.xT _ _ d;exact⟨this.1,this.2.1,om⟩
 ·intro g B T d J;rcases kh J with rfl|a
  ·trivial
  ·rw[c8]at a;by_cases e:g=b
   ·subst e;rw[if_pos rfl]at a;cases a;rw[z]at d;cases d;refine⟨I,u,lo,hi,Y,R.es,om,by rw[mf];exact N,fun i v hi'=>?_,R.Lm⟩;rw[nW _ _ _ _ ae]at hi';rw[ac];by_cases p:o<=i/\i<o+H.length
    ·rw[if_pos p]at hi';obtain⟨P,n,k⟩:=S.get hi';refine⟨P,?_,k⟩;rw[if_pos om,<-n];congr 1;omega
    ·rw[if_neg p]at hi';have Q:i<c.length:=by
      rcases agA i c.length with hh|hh
      ·exact hh
      ·rw[ags hh]at hi';cases hi'
     obtain⟨P,n,k⟩:=R.cell _ _ hi';exact⟨P,by rw[if_neg om];exact n,k⟩
   ·rw[if_neg e]at a;by_cases y:B.b=l.b
    ·have L:=j.sep _ _ _ _ _ _ z d y.symm t a (fun m=>e m.symm);cases T with
     |dead=>trivial
     |cells cx aF aE aB=>
      obtain⟨rfl,al⟩:=L;have f:=(j.wf.dP _ _ _ _ _ a).2;have h:=(j.wf.dP _ _ _ _ _ t).2;unfold uh at f h;cases A:st.fm.get X with
      |none=>rw[A]at f h;exact absurd (f.trans h.symm) e
      |some an=>
       rw[A]at f;have M:(st.put b (.cells (dw c o H) es X ag)).fm.get X=some an:=A;have ax:=um (wG M f e J);obtain⟨aA,ah,az,aw,E,C⟩:=j.obj _ _ _ d a;rw[y,m]at E;cases E;rw[y];refine⟨I,u,lo,hi,Y,C.es,by rw[aj];exact C.size,C.fits,fun i v hi'=>?_,C.Lm⟩;have Q:i<cx.length:=by
        exact ach
       obtain⟨P,n,k⟩:=C.cell _ _ hi';refine⟨P,?_,k⟩;rw[ac,if_neg om];exact n
     |_=>exact L.elim
    ·rw[q.other _ y];exact j.obj _ _ _ d a
 ·intro g aD B aH T aa d V O aq ap x;rcases kh aq with rfl|h1
  ·cases aa<;>trivial
  ·rcases kh ap with rfl|h2
   ·cases T<;>trivial
   ·rw[c8]at h1 h2;by_cases e:g=b
    ·subst e;rw[if_pos rfl]at h1;cases h1;rw[if_neg (fun m=>x m.symm)]at h2;have r:=j.sep _ _ _ _ _ _ d V O t h2 x;cases aa<;>exact r
    ·rw[if_neg e]at h1;by_cases F:aD=b
     ·subst F;rw[if_pos rfl]at h2;cases h2;have r:=j.sep _ _ _ _ _ _ d V O h1 t x;cases T<;>exact r
     ·rw[if_neg F]at h2;exact j.sep _ _ _ _ _ _ d V O h1 h2 x
end
section
variable{w0:World} {N0:Nat} {G:Nat->Prop} {ρ:Ren} {st:St} {w:World}
theorem yk.symm{o a:fX}{l b:Loc}(e:yk o a l b):yk a o b l:=by
 cases o<;>cases a<;>first|trivial|exact e|(obtain⟨d,c⟩:=e;exact⟨d.symm,c.symm⟩)
theorem di.extend(h:di w0 N0 G ρ st w){dC:St}{w':World}{o:fX}{l:Loc}(T:dC.n=st.n+1)(s:∀i,dC.get i=if i=st.n then some o else st.get i)(t:WF dC) 
  (c:Below N0 w w') (v:N0<=l.b/\l.rw=true) (u:l.b<w'.heap.size)
  (n:∀i e j,ρ i=some e->st.get i=some j->yj ρ e j w'.heap[e.b]?)
  (p:yj (ρ.add st.n l) l o w'.heap[l.b]?)
  (m:∀i e j,ρ i=some e->st.get i=some j->e.b=l.b->yk j o e l) (C:O7 N0 (ρ.add st.n l) dC w'):
  di w0 N0 G (ρ.add st.n l) dC w':=by
 have x:=ei (l:=l) h.ij;have y:=h.Fi;have D:=c.size;refine⟨t,h.below.trans c,om,fun i z=>by have:=h.K1 i z;exact⟨by rw[dU _ _ om];exact this.1,om⟩,?_,?_,?_,C⟩
 ·intro b A a;by_cases q:b=st.n
  ·subst q;rw[c7]at a;cases a;exact⟨om,fun _=>v,u⟩
  ·rw[dU _ _ q]at a;have:=h.xT _ _ a;exact⟨om,this.2.1,om⟩
 ·intro b A R a d;rw[s]at d;by_cases q:b=st.n
  ·subst q;rw[c7]at a;cases a;rw[if_pos rfl]at d;cases d;exact p
  ·rw[dU _ _ q]at a;rw[if_neg q]at d;exact(n _ _ _ a d).mono x
 ·intro b r g B P K h1 h2 he g1 g2 BM;rw[s]at g1 g2;by_cases k:b=st.n
  ·by_cases f:r=st.n
   ·exact absurd (k.trans f.symm) BM
   ·subst k;rw[c7]at h1;cases h1;rw[dU _ _ f]at h2;rw[if_pos rfl]at g1;cases g1;rw[if_neg f]at g2;exact(m _ _ _ h2 g2 he.symm).symm
  ·rw[dU _ _ k]at h1;rw[if_neg k]at g1;by_cases f:r=st.n
   ·subst f;rw[c7]at h2;cases h2;rw[if_pos rfl]at g2;cases g2;exact m _ _ _ h1 g1 he
   ·rw[dU _ _ f]at h2;rw[if_neg f]at g2;exact wk
theorem di.weaken(c:di w0 N0 G ρ st w){dC:St}(m:dC.n=st.n)(a:∀n o,dC.get n=some o->o=.dead∨st.get n=some o)(j:WF dC):di w0 N0 G ρ dC w:=by
 refine⟨j,c.below,c.Fi,fun n h=>by rw[m];exact c.K1 n h,fun b p d=>by rw[m];exact c.xT b p d,fun b p o d x=>?_,fun b v p y o t f e u s q i=>?_,c.j2.H0 c.sep (fun _=>False) (fun b p d=>(c.xT _ _ d).2.2) (agD _) (fun _ _ _=>Z) (fun _ h=>h.elim) (fun _ _ d=>.inl d) (fun _ _ _ _ _ f e=>⟨f,(a _ _ e).resolve_left (by intro d;cases d)⟩)⟩
 ·rcases a _ _ x with rfl|r
  ·trivial
  ·exact c.obj _ _ _ d r
 ·rcases a _ _ s with rfl|k
  ·cases t<;>trivial
  ·rcases a _ _ q with rfl|l
   ·cases o<;>trivial
   ·exact c.sep _ _ _ _ _ _ f e u k l i
theorem WF.Ss(d:WF st){b:Nat}(f:b<st.n):WF (st.put b .dead):=by
 refine⟨fun e o a=>?_,fun e j i f1 h a=>?_,d.NN,d.pos,Yy d Z⟩
 ·rw[c8]at a;by_cases c:e=b
  ·subst c;exact f
  ·rw[if_neg c]at a;exact d.lt _ _ a
 ·rw[c8]at a;by_cases c:e=b
  ·subst c;rw[if_pos rfl]at a;cases a
  ·rw[if_neg c]at a;exact d.dP _ _ _ _ _ a
def grown(st:St)(es dP fo b o len n:Nat)(c old xs:List Value):St:=
 let a:=st.kill dP st.n (fo+o+len*es) (fo+o+(len+n)*es)
 let e:=match a.fm.get dP with|some e=>e|none=>if agn c.length (o+len*es)then [b]else []
 let d:=if agn c.length (o+len*es)then a else a.put b .dead
 {hp:=d.hp.set st.n (.cells (old++xs) es dP (fo+o)),n:=st.n+1,fm:=d.fm.set dP (st.n::e)}
def iU(st:St)(es dP fo b o len n:Nat)(c:List Value):St:=
 let a:=st.kill dP st.n (fo+o+len*es) (fo+o+(len+n)*es)
 if agn c.length (o+len*es)then a else a.put b .dead
variable{es dP fo b o len n:Nat} {c old xs:List Value}
theorem pG:(iU st es dP fo b o len n c).n=st.n:=by
 unfold iU;dsimp only;split
 ·exact gM
 ·exact gM (st:=st)
theorem lq{d:fX}(a:(iU st es dP fo b o len n c).get I=some d):d=.dead∨st.get I=some d:=by
 unfold iU at a;dsimp only at a;split at a
 ·exact kh a
 ·rw[c8]at a;split at a
  ·cases a;exact .inl rfl
  ·exact kh a
theorem Fj(d:WF st)(a:b<st.n):WF (iU st es dP fo b o len n c):=by
 unfold iU;dsimp only;split
 ·exact d.kill
 ·exact d.kill.Ss (by rw[gM];exact a)
theorem Gp(q:WF st)(m:st.get b=some (.cells c es dP fo)){l j:Nat} 
  (a:(iU st es dP fo b o len n c).get I=some (.cells H l dP j)):fo+o+(len+n)*es<=j∨j+H.length<=fo+o+len*es:=by
 have d:=(lq a).resolve_left (by intro t;cases t);have r:=q.lt _ _ d;have i:=(q.dP _ _ _ _ _ d).2;have f:=(q.dP _ _ _ _ _ m).2;unfold uh at i f;by_cases h:I=b
 ·subst h;rw[m]at d;cases d;unfold iU at a;dsimp only at a;split at a
  ·rename_i p;have:=agk p;exact .inr om
  ·rw[c8,if_pos rfl]at a;cases a
 ·cases e:st.fm.get dP with
  |none=>rw[e]at i f;exact absurd (i.trans f.symm) h
  |some s=>
   rw[e]at i;have k:(st.kill dP st.n (fo+o+len*es) (fo+o+(len+n)*es)).get I=some (.cells H l dP j):=by
    unfold iU at a;dsimp only at a;split at a
    ·exact a
    ·rw[c8,if_neg h]at a;exact a
   exact um (wG e i om k)
theorem kC(a:Nat):(grown st es dP fo b o len n c old xs).get a=if a=st.n then some (.cells (old++xs) es dP (fo+o))else(iU st es dP fo b o len n c).get a:=by
 unfold grown iU St.get;dsimp only;rw[cB]
theorem ym(C:WF st)(u:st.get b=some (.cells c es dP fo)):WF (grown st es dP fo b o len n c old xs):=by
 have z:=C.lt _ _ u;have p:=Fj (es:=es) (dP:=dP) (fo:=fo) (o:=o) (len:=len) (n:=n) (c:=c) C z;have r:=C.dP _ _ _ _ _ u;refine⟨fun s A a=>?_,fun s D K f1 G a=>?_,fun q f e=>?_,Nat.succ_pos _,fun A a=>by
  rw[kC]at a;split at a
  ·cases a;rfl
  ·exact p.zro _ a⟩
 ·show s<st.n+1;rw[kC]at a;by_cases y:s=st.n
  ·omega
  ·rw[if_neg y]at a;have:=p.lt _ _ a;rw[pG]at this;omega
 ·show f1<st.n+1/\uh _ s f1;rw[kC]at a;have j:(iU st es dP fo b o len n c).fm=(st.kill dP st.n (fo+o+len*es) (fo+o+(len+n)*es)).fm:=by
   unfold iU;dsimp only;split<;>rfl
  have k:∀q,(grown st es dP fo b o len n c old xs).fm.get q=if q=dP then some (st.n::(match(st.kill dP st.n (fo+o+len*es) (fo+o+(len+n)*es)).fm.get dP with|some f=>f|none=>if agn c.length (o+len*es)then [b]else []))else(iU st es dP fo b o len n c).fm.get q:=by
   intro q;rw[j];unfold grown;dsimp only;rw[cB];split
   ·rfl
   ·split<;>rfl
  by_cases y:s=st.n
  ·subst y;rw[if_pos rfl]at a;cases a;refine⟨om,?_⟩;unfold uh;rw[k,if_pos rfl];simp
  ·rw[if_neg y]at a;have w:=p.dP _ _ _ _ _ a;rw[pG]at w;refine⟨om,?_⟩;have d:=w.2;unfold uh at d⊢;rw[k];by_cases h:f1=dP
   ·subst h;rw[if_pos rfl];rw[j]at d;refine agw.2 (.inr ?_);cases i:(st.kill f1 st.n (fo+o+len*es) (fo+o+(len+n)*es)).fm.get f1 with
    |some f=>rw[i]at d;exact d
    |none=>
     rw[i]at d;have m:st.fm.get f1=none:=by
      cases x:st.fm.get f1 with
      |none=>rfl
      |some f=>rw[ik x]at i;simp only[cB]at i;simp at i
     have t:b=f1:=by have:=r.2;unfold uh at this;rw[m]at this;exact this
     have v:s=b:=by rw[t];exact d
     subst v;dsimp only;unfold iU at a;dsimp only at a;split at a
     ·rename_i l;rw[if_pos l];simp
     ·rw[c8,if_pos rfl]at a;cases a
   ·rw[if_neg h];exact d
 ·show q<st.n+1;unfold grown at e;dsimp only at e;rw[cB]at e;by_cases h:q=dP
  ·subst h;omega
  ·rw[if_neg h]at e;have:q<(iU st es dP fo b o len n c).n:=by
    refine p.NN q f ?_;unfold iU;dsimp only;split<;>(rename_i l;simp only[l]at e;exact e)
   rw[pG]at this;omega
end
theorem uo{v:Value}(a:flat v=true)(ρ:Ren):cX ρ v v:=by
 unfold flat at a;split at a<;>first|cases a|skip
 ·exact .bool _
 ·exact .int _ _
 ·exact .string _
 ·exact .Lk
 ·exact .me
 ·exact .Ll
 ·exact .nilFunc
 ·exact .nilIface
theorem jI{l:List Value}(a:l.all flat=true)(ρ:Ren):cT ρ l l:=by
 induction l with
 |nil=>exact .nil
 |cons v l b=>simp only[agP,ago]at a;exact .cons (uo a.1 ρ) (b a.2)
def Lp:TypeDesc->Bool
 |.struct _=>true
 |.array _ _=>true
 |_=>false
def Gq(ti:TI)(a:Value):Prop:=(ti.agg=true/\a=.agg ti.zero.toArray)∨(ti.agg=false/\ti.zero=[a]/\flat a=true)
theorem Gq.cells{ti:TI}{b:Value}(c:Gq ti b):b.cells.toList=ti.zero:=by
 rcases c with⟨_,rfl⟩|⟨_,d,a⟩
 ·rfl
 ·rw[d];cases b<;>first|rfl|(simp[flat]at a;done)
variable{B J:Value}
theorem Gq.mk{ti:TI}(c:Gq ti B):Iz ti.agg ti.zero=some B:=by
 rcases c with⟨a,rfl⟩|⟨a,b,_⟩
 ·rw[a];rfl
 ·rw[a,b];rfl
structure nQ (C:dR):Prop where
 und:∀t ti,C.tt.get t=some ti->C.P.underlying t=some ti.desc
 VH:∀t ti,C.tt.get t=some ti->∃i z,C.P.info? t=some i/\i.size=ti.size/\i.bytes=ti.bytes/\i.zero=some z/\Gq ti z
 agg:∀t ti,C.tt.get t=some ti->ti.agg=Lp ti.desc
 aez:∀t ti,C.tt.get t=some ti->ti.zero.length=ti.size
 yn:∀t ti,C.tt.get t=some ti->ti.zero.all flat=true
section
variable{C:dR} {t:TypeId} {ti:TI}
theorem ed(b:nQ C)(a:C.tt.get t=some ti)(w:World):(underlying t).run C.P w=.ok ti.desc w:=run_underlying (b.und _ _ a) w
theorem Su(c:nQ C)(d:C.tt.get t=some ti)(w:World):∃a b,(typeInfo t).run C.P w=.ok a w/\a.size=ti.size/\a.bytes=ti.bytes/\a.zero=some b/\Gq ti b:=by
 obtain⟨a,b,f,e⟩:=c.VH _ _ d;exact⟨a,b,by simp[typeInfo,f],e⟩
theorem fO(a:nQ C)(b:C.tt.get t=some ti)(w:World):(sizeOf t).run C.P w=.ok ti.size w:=by
 obtain⟨f,e,c,d,_⟩:=a.VH _ _ b;simp[sizeOf,typeInfo,c,d]
theorem Fk(b:nQ C)(c:C.tt.get t=some ti)(w:World):∃a,(typeInfo t).run C.P w=.ok a w/\a.bytes=ti.bytes:=by
 obtain⟨a,f,e,h,d,_⟩:=Su b c w;exact⟨a,e,d⟩
theorem BS(b:nQ C)(a:C.tt.get t=some ti)(w:World):(isAgg t).run C.P w=.ok ti.agg w:=by
 unfold isAgg;rw[Sem.run_bind,ed b a w,Result.andThen_ok,b.agg _ _ a];cases ti.desc<;>rfl
theorem mg(c:nQ C)(e:C.tt.get t=some ti)(w:World):∃a,(zeroValue t).run C.P w=.ok a w/\Gq ti a:=by
 obtain⟨i,a,f,j,h,b,d⟩:=c.VH _ _ e;exact⟨a,by simp[zeroValue,typeInfo,f,b],d⟩
end
structure Kept (w0:World) (N0:Nat) (G:Nat->Prop) (ρ:Ren) (dC:St) (v:Value) (v':Value) (w':World) (dk:Ren):Prop where
 le:ρ.le dk
 world:di w0 N0 G dk dC w'
 value:cX dk v v'
def rh(w0:World)(N0:Nat)(G:Nat->Prop)(ρ:Ren)(dC:St)(v:Value)(d:Result Value):Prop:=
 ∃c b a,d=.ok b a/\Kept w0 N0 G ρ dC v b a c
variable{E:Array Value}
section
variable{C:dR} {w0:World} {N0:Nat} {G:Nat->Prop} {ρ:Ren} {st dC:St} {w:World} {v:Value}
theorem rh.same(b:di w0 N0 G ρ st w)(a:cX ρ v B):rh w0 N0 G ρ st v (.ok B w):=⟨ρ,B,w,rfl,Ren.le_refl _,b,a⟩
theorem c9{st dC:St}{v a:Value}(b:val v st=some (.val a dC)):a=v/\dC=st:=by
 unfold val at b;cases b;exact⟨Z,Z⟩
theorem di.row(h:di w0 N0 G ρ st w){c:List Value}{es:Nat}(a:TypeId)(b:cT ρ c E.toList):
  di w0 N0 G (ρ.add st.n ⟨w.heap.size,0,es,E.size,true⟩) (st.new (.cells c es st.n 0)) {w with heap:=w.heap.push (.cells E a)}:=by
 refine h.new Z Z ⟨E,a,0,0,Z,Z,Z,?_,fun j v d=>?_,fun j _ i=>om⟩
 ·have:=b.length;simp at this;simp;omega
 ·obtain⟨e,k,f⟩:=b.get d;refine⟨e,?_,f.mono (ei h.ij)⟩;simpa using k
theorem iz{w:World}(a:TypeId)(c:Array Value):(Go.newRow a c).run S w=.ok ⟨w.heap.size,0,none⟩ {w with heap:=w.heap.push (.cells c a)}:=by
 simp[Go.newRow,newObj,Sem.run]
theorem Pd(e:nQ C)(j:di w0 N0 G ρ st w){t:TypeId}(a:xf C t st=some (.val v dC)):rh w0 N0 G ρ dC v ((Instr.alloc t true (.tuple #[])).run C.P w):=by
 unfold xf at a;split at a
 ·rename_i ti h;obtain⟨k,i,d⟩:=mg e h w;split at a
  ·obtain⟨rfl,rfl⟩:=c9 a;have b:cT ρ ti.zero k.cells.toList:=by rw[d.cells];exact jI (e.yn _ _ h) ρ
   refine⟨_,.pointer (some ⟨w.heap.size,0,none⟩),_,?_,ei j.ij,j.row t b,?_⟩
   ·simp only[Instr.alloc,Sem.run_bind,i,Result.andThen_ok,newVar,iz,Sem.run_pure]
   ·exact .ptr (l:=⟨w.heap.size,0,ti.size,k.cells.size,true⟩) (c7 _ _ _)
  ·split at a
   ·rename_i c;obtain⟨rfl,rfl⟩:=c9 a;have f:k.cells= #[.pointer none,.slice none 0 0]:=by rw[<-Array.toList_inj,d.cells,c]
    refine⟨_,.pointer (some ⟨w.heap.size,0,none⟩),_,?_,ei j.ij,j.af4 t C.be,?_⟩
    ·simp only[Instr.alloc,Sem.run_bind,i,Result.andThen_ok,newVar,iz,Sem.run_pure,f]
    ·exact .ptr (l:=⟨w.heap.size,0,0,0,true⟩) (c7 _ _ _)
   ·cases a
 ·cases a
theorem VI(c:di w0 N0 G ρ st w){t:TypeId}(b:cX ρ B J)(a:Li B st=some (.val v dC)):rh w0 N0 G ρ dC v ((Instr.box t J).run C.P w):=by
 unfold Li at a;split at a
 ·obtain⟨rfl,rfl⟩:=c9 a;refine⟨_,.pointer (some ⟨w.heap.size,0,none⟩),_,?_,ei c.ij,c.row t b.cells,?_⟩
  ·simp only[Instr.box,Sem.run_bind,Result.andThen_ok,newVar,iz,Sem.run_pure]
  ·exact .ptr (l:=⟨w.heap.size,0,_,J.cells.size,true⟩) (c7 _ _ _)
 ·cases a
theorem qx{b o:Nat}(a:cX ρ (.pointer (some ⟨b,o,none⟩)) B):∃c,ρ b=some c/\B=.pointer (some ⟨c.b,c.d+o,none⟩):=by
 cases a with
 |ptr a=>exact⟨_,a,rfl⟩
theorem Lq(q:di w0 N0 G ρ st w){b o:Nat}{l:Loc}(e:ρ b=some l)(d:gq st b o 1=some [B]):
  ∃a,w.cell? ⟨l.b,l.d+o,none⟩=some a/\cX ρ B a:=by
 obtain⟨c,es,t,u,f,m,k⟩:=o8 d;obtain⟨p,j,lo,hi,s,r⟩:=q.obj _ _ _ e f;have h:c[o]?=some B:=by
  have:((c.drop o).take 1)[0]?=some B:=by rw[<-k];rfl
  simpa using this
 obtain⟨a,i,n⟩:=r.cell _ _ h;exact⟨a,by rw[cell_of s];exact i,n⟩
theorem IF(i:nQ C)(u:di w0 N0 G ρ st w){t:TypeId}(s:cX ρ B J)(d:ye C t B st=some (.val v dC)):
  ∃j,(Instr.loadAt t J).run C.P w=.ok j w/\cX ρ v j/\dC=st:=by
 unfold ye at d;split at d
 ·rename_i ti b o h;obtain⟨D,k,rfl⟩:=qx s;split at d
  ·rename_i c m f;split at d
   ·rename_i A a;obtain⟨rfl,rfl⟩:=c9 d;cases e:ti.agg with
    |true=>
     obtain⟨p,n,l⟩:=u.read k f C.P;refine⟨.agg p,?_,?_,Z⟩
     ·simp only[Instr.loadAt,Instr.sureAddr,loadVar,Sem.run_bind,Sem.run_pure,Result.andThen_ok,BS i h,e,if_true,fO i h,n]
     ·rw[e]at a;simp[Iz]at a;subst a;exact .agg l
    |false=>
     rw[e]at a m;have q:ti.size=1:=by simpa using m
     rw[q]at f;have r:=fk f
     match c,r,a with
     |[z],_,a=>
      simp[Iz]at a;subst a;obtain⟨J,y,x⟩:=Lq u k f;refine⟨J,?_,x,Z⟩;simp only[Instr.loadAt,Instr.sureAddr,loadVar,Sem.run_bind,Sem.run_pure,Result.andThen_ok,BS i h,e,agp,if_false,run_load y]
   ·cases d
  ·cases d
 ·cases d
theorem Pe(n:nQ C)(y:di w0 N0 G ρ st w){t:TypeId}{x d:Value}(k:cX ρ B J)(j:cX ρ x d)(a:iC C t B x st=some (.val v dC)):
  ∃c,(Instr.storeAt t J d).run C.P w=.ok () c/\di w0 N0 G ρ dC c/\v=lr/\dC.n=st.n:=by
 unfold iC at a;split at a
 ·rename_i ti b o l;obtain⟨z,m,rfl⟩:=qx k;split at a
  ·rename_i r;split at a
   ·rename_i u p;obtain⟨rfl,rfl⟩:=c9 a;obtain⟨c,q,f,s⟩:=y.write m p j.cells C.P;have e:=j.cells.length;have h:=agm r;refine⟨c,?_,f,Z,s⟩;have i:d.cells.size=ti.size:=by rw[<-h,e];simp
    simp only[Instr.storeAt,Instr.sureAddr,storeVar,Sem.run_bind,Sem.run_pure,Result.andThen_ok,fO n l,i,ne_eq,not_true_eq_false,if_false,q]
   ·cases a
  ·cases a
 ·cases a
end
variable{L:List (Nat×Value)}
section
variable{C:dR} {w0:World} {N0:Nat} {G:Nat->Prop} {ρ:Ren} {st dC:St} {w:World} {v:Value}
theorem Pf(b:List Value):∀(c:Array Value) (a d:Nat),a+d+b.length<=c.size->
  ((b.zipIdx d).foldl (fun j (l:Value×Nat)=>j.setIfInBounds (a+l.2) l.1) c).toList=dw c.toList (a+d) b:=by
 induction b with
 |nil=>intro c a d _;cases m:c.toList<;>simp[dw,m]
 |cons v b i=>
  intro c a d f;simp only[agr]at f;simp only[List.zipIdx_cons,List.foldl_cons];rw[i _ a (d+1) (by simp;omega)];refine List.ext_getElem? fun h=>?_;rw[nW _ _ _ _ (by simp;omega),nW _ _ _ _ (by simp;omega)];simp only[agr,Array.toList_setIfInBounds];by_cases k:h=a+d
  ·subst k;rw[if_neg om,if_pos om,agR,List.getElem?_set_self (by simp;omega)];rfl
  ·by_cases e:a+(d+1)<=h/\h<a+(d+1)+b.length
   ·rw[if_pos e,if_pos om,show h-(a+d)=(h-(a+(d+1)))+1 from by omega];rfl
   ·rw[if_neg e,if_neg om,List.getElem?_set_ne om]
inductive AN (ρ:Ren):List (Nat×Value)->List (Nat×Value)->Prop
 |nil:AN ρ [] []
 |cons {i:Nat} {v v':Value} {l l':List (Nat×Value)} (h:cX ρ v v') (t:AN ρ l l'):AN ρ ((i,v)::l) ((i,v')::l')
theorem IG{c e a b:List Value}(i:cT ρ c e)(d:cT ρ a b){n:Nat}(f:n+a.length<=c.length):cT ρ (dw c n a) (dw e n b):=by
 have k:=i.length;have j:=d.length;refine yi (by rw[mf,mf,k]) fun l v hi=>?_;rw[nW _ _ _ _ f]at hi;rw[nW _ _ _ _ om,<-j];by_cases h:n<=l/\l<n+a.length
 ·rw[if_pos h]at hi⊢;exact d.get hi
 ·rw[if_neg h]at hi⊢;exact i.get hi
theorem yo{f place':Nat->Option (Nat×Nat)}(A:∀D h,f D=some h->place' D=some h){n:List (Nat×Value)}(u:AN ρ L n):
  ∀{c:List Value} {b:Array Value} {x:List Value},cT ρ c b.toList->qq f c L=some x->∃j,Instr.fill place' b n=some j/\cT ρ x j.toList:=by
 induction u with
 |nil=>intro c b x m d;simp[qq]at d;subst d;exact⟨b,rfl,m⟩
 |@cons D v k T R G t C=>
  intro c b x m d;simp only[qq]at d;split at d
  ·cases d
  ·rename_i e y r;split at d
   ·rename_i a;simp only[ago]at a;have P:=agm a.1;have K:=agk a.2;have o:=G.cells.length;have w:=m.length;simp only[agu]at o w;have l:=Pf k.cells.toList b e 0 (by simp;omega);have p:cT ρ (dw c e (cellsOf v)) (k.cells.zipIdx.foldl (fun i (h:Value×Nat)=>i.setIfInBounds (e+h.2) h.1) b).toList:=by
     have z:k.cells.zipIdx.foldl (fun i (h:Value×Nat)=>i.setIfInBounds (e+h.2) h.1) b=(k.cells.toList.zipIdx 0).foldl (fun i (h:Value×Nat)=>i.setIfInBounds (e+h.2) h.1) b:=by
      rw[<-Array.foldl_toList,Array.toList_zipIdx]
     rw[z,l];exact IG m G.cells om
    obtain⟨j,s,q⟩:=C p d;refine⟨j,?_,q⟩;simp only[Instr.fill,A _ _ r];rw[if_neg ?_]
    ·exact s
    ·simp;omega
   ·cases d
theorem IH(n:nQ C):∀(a:List Field),(a.all fun e=>(C.tt.get e.type).isSome)=true->
  ∃b:List (Nat×Nat),(a.mapM (m:=Sem) fun e=>do pure (e.offset,<-sizeOf e.type)).run C.P w=.ok b w/\∀c f,gJ C ⟨a⟩ c=some f->b[c]?=some f:=by
 intro a;induction a with
 |nil=>intro _;exact⟨[],by simp,fun c f i=>by simp[gJ,nth]at i⟩
 |cons e a l=>
  intro i;simp only[agP,ago]at i;obtain⟨b,o,k⟩:=l i.2;obtain⟨ti,j⟩:=Option.isSome_iff_exists.1 i.1;refine⟨(e.offset,ti.size)::b,?_,fun c f d=>?_⟩
  ·simp only[List.mapM_cons,Sem.run_bind,fO n j,Result.andThen_ok,Sem.run_pure,o]
  ·cases c with
   |zero=>simp only[gJ,nth,j]at d;simpa using d
   |succ c=>have h:gJ C ⟨a⟩ c=some f:=d;simpa using k c f h
theorem Pg(d:nQ C)(H:di w0 N0 G ρ st w){t:TypeId}{ps':Array (Nat×Value)}(k:AN ρ L ps'.toList)(a:xc C t L st=some (.val v dC)):
  ∃x,(Instr.build t ps').run C.P w=.ok x w/\cX ρ v x/\dC=st:=by
 unfold xc at a;split at a
 ·rename_i ti i;obtain⟨F,K,D⟩:=mg d i w;have j:cT ρ ti.zero F.cells.toList:=by rw[D.cells];exact jI (d.yn _ _ i) ρ
  split at a
  ·rename_i b l;split at a
   ·rename_i c s z q;obtain⟨rfl,rfl⟩:=c9 a;obtain⟨R,y,o⟩:=IH (w:=w) d b.toList s;obtain⟨p,h,e⟩:=yo (place':=fun u=>R.toArray[u]?) (fun u B r=>by
     have:=o u B r;simpa using this) k j q
    refine⟨.agg p,?_,.agg e,Z⟩;have g:(b.mapM (m:=Sem) fun E=>do pure (E.offset,<-sizeOf E.type)).run C.P w=.ok R.toArray w:=by
     rw[Array.mapM_eq_mapM_toList];simp only[map_eq_pure_bind,Sem.run_bind,y,Result.andThen_ok,Sem.run_pure]
    simp only[Instr.build,Sem.run_bind,K,Result.andThen_ok,ed d i,l,g,h,Sem.run_pure]
   ·cases a
  ·rename_i n T l;split at a
   ·rename_i P A z;split at a
    ·rename_i c q;obtain⟨rfl,rfl⟩:=c9 a;obtain⟨p,h,e⟩:=yo (place':=fun u=>some (u*P.size,P.size)) (fun u B r=>r) k j q;refine⟨.agg p,?_,.agg e,Z⟩;simp only[Instr.build,Sem.run_bind,K,Result.andThen_ok,ed d i,l,fO d A,h,Sem.run_pure]
    ·cases a
   ·cases a
  ·cases a
 ·cases a
theorem NF(a:List Value):∀n,(wo a n).length=n*a.length/\∀b:Nat,b<n*a.length->(wo a n)[b]?=a[b%a.length]?:=by
 intro n;induction n with
 |zero=>exact⟨by simp[wo],fun b d=>om⟩
 |succ n c=>
  refine⟨by simp[wo,c.1,agH,Nat.add_comm],fun b d=>?_⟩;simp only[wo];by_cases hi:b<a.length
  ·rw[agB hi,Nat.mod_eq_of_lt hi]
  ·have e:b<n*a.length+a.length:=by rw[<-Nat.succ_mul];exact d
   rw[agJ om,c.2 _ om];congr 1;exact(Nat.mod_eq_sub_mod om).symm
theorem vE{b:List Value}(a:b.all flat=true):∀n,(wo b n).all flat=true
 |0=>rfl
 |n+1=>by simp only[wo,List.all_append,a,Bool.true_and];exact vE a n
theorem Gi{d:Nat->Option (Nat×Nat)}:∀{a:List (Nat×Value)} {c e:List Value},qq d c a=some e->e.length=c.length:=by
 intro a;induction a with
 |nil=>intro c e b;simp[qq]at b;rw[b]
 |cons h a f=>
  intro c e b;obtain⟨i,v⟩:=h;simp only[qq]at b;split at b
  ·cases b
  ·split at b
   ·rw[f b,mf]
   ·cases b
theorem Cr(a:Array Value)(n:Nat):((Array.range (n*a.size)).map (a[· %a.size]!)).toList=wo a.toList n:=by
 refine List.ext_getElem? fun e=>?_;have b:=NF a.toList n;simp only[agu]at b;rcases agA e (n*a.size)with hi|hi
 ·rw[b.2 e hi];have c:0<a.size:=by
   rcases Nat.eq_zero_or_pos a.size with h|h
   ·rw[h]at hi;omega
   ·exact h
  have d:e%a.size<a.size:=Nat.mod_lt _ c;rw[agl,Array.getElem?_map,Array.getElem?_range,if_pos hi];simp[d,agl]
 ·rw[ags (by simp;omega),ags (by rw[b.1];exact hi)]
theorem Cs(hT:nQ C)(x:di w0 N0 G ρ st w){t:TypeId}{n:Nat}{e:Array (Nat×Value)}(p:AN ρ L e.toList)(a:kf C t n L st=some (.val v dC)):
  rh w0 N0 G ρ dC v ((Instr.buildSlice t n e).run C.P w):=by
 unfold kf at a;split at a
 ·rename_i ti ht;split at a
  ·rename_i h hd;split at a
   ·rename_i te hte;split at a
    ·rename_i c b hf;split at a
     ·rename_i u;obtain⟨rfl,rfl⟩:=c9 a;simp only[ago]at b;have r:=agv.mp b.1.1;have y:=agk b.1.2;have hzl:=agm b.2;obtain⟨q,hz,d⟩:=mg hT hte w;have o:q.cells.size=te.size:=by rw[<-hzl,<-d.cells];simp
      have k:cT ρ (wo te.zero n) ((Array.range (n*te.size)).map (q.cells[· %q.cells.size]!)).toList:=by
       rw[<-o,Cr,d.cells];exact jI (vE (hT.yn _ _ hte) n) ρ
      obtain⟨j,If,RD⟩:=yo (place':=fun z=>some (z*te.size,te.size)) (fun z A s=>s) p k hf;have i:j.size=n*te.size:=by
       exact aaf
      refine⟨_,.slice (some ⟨w.heap.size,0,none⟩) n n,_,?_,ei x.ij,x.row h RD,?_⟩
      ·exact Ym
      ·refine .slice (l:=⟨w.heap.size,0,te.size,j.size,true⟩) (c7 _ _ _) (agD _) ?_;simp[i]
     ·cases a
    ·cases a
   ·cases a
  ·cases a
 ·cases a
end
theorem Ct{a b:Int}:qp a b=true↔a=b:=by
 cases a<;>cases b<;>simp only[qp,agM]<;>first|(constructor<;>intro c<;>first|omega|(cases c;rfl)|(subst c;rfl))|simp
theorem vB(a b:Int):qp a b=(a==b):=by
 rw[agt,Ct];simp
variable{V:IntKind}
theorem sk{a:IntKind}:tY V a=true↔V=a:=by
 cases V<;>cases a<;>simp[tY]
theorem Lr{a b:Int}:tZ a b=true↔a<b:=by
 cases a<;>cases b<;>simp only[tZ,agv];all_goals simp only[Int.negSucc_eq,Int.ofNat_eq_natCast]
 ·omega
 ·exact⟨fun c=>absurd c sm,fun c=>om⟩
 ·exact⟨fun _=>om,fun _=>trivial⟩
 ·omega
theorem zP(a b:Int):tZ a b=decide (a<b):=by
 rw[agt,Lr];simp
theorem qy:∀(a b:cq),l8 a b=(a==b):=by
 intro a;induction a with
 |nil=>intro b;cases b<;>rfl
 |cons x a ih=>
  intro b;cases b with
  |nil=>rfl
  |cons y b=>
   simp only[l8];exact YN
theorem II:∀(a b:cq),cE a b=Op.bytesLess a b:=by
 intro a;induction a with
 |nil=>intro b;cases b<;>rfl
 |cons x a ih=>
  intro b;cases b with
  |nil=>rfl
  |cons y b=>
   simp only[cE,Op.bytesLess];have c:(decide (x<y))=agq x.toNat y.toNat:=by
    rw[agt];simp[UInt8.lt_iff_toNat_lt]
   rw[c];cases agq x.toNat y.toNat with
   |true=>rfl
   |false=>
    exact YN
theorem toList_data(a:ByteArray):a.toList=a.data.toList:=by
 rw[Go.ByteArray.toList_eq]
variable{U:BinOp}
section
variable{C:dR} {w0:World} {N0:Nat} {G:Nat->Prop} {ρ:Ren} {st dC:St} {w:World} {v:Value}
theorem Ls{a b:Int}(h:ub U V a b=some v)(c:BO U=false)(t:TypeId):(binOp U t (.int V a) (.int V b)).run C.P w=.ok v w:=by
 cases U<;>simp[BO]at c<;>simp only[ub,Option.some.injEq]at h
 case quo=>
  exact aal
 case rem=>
  exact aal
 all_goals
  subst h;simp only[binOp,ne_eq,not_true_eq_false,if_false,Op.intArith,Op.intBits,Op.intCmp,Sem.run_pure,vB,zP];try rfl
 ·have:decide (a<=b)= !decide (b<a):=by rw[agt];simp
  rw[this]
 ·have:decide (a≥b)= !decide (a<b):=by rw[agt];simp
  rw[this]
theorem Gr{c:IntKind}{d b:Int}(a:uc U V d b=some v)(t:TypeId):(binOp U t (.int V d) (.int c b)).run C.P w=.ok v w:=by
 unfold uc at a;split at a
 ·rename_i n;split at a
  ·cases a;simp[binOp,Op.shift];intro a;omega
  ·cases a;simp[binOp,Op.shift];intro a;omega
  ·cases a
 ·cases a
theorem size_data(s:ByteArray):s.size=s.data.toList.length:=by
 cases s;rfl
theorem Ph(a b:ByteArray):a++b=Lg a b:=by
 apply ByteArray.ext;simp[Lg,ByteArray.data_append]
theorem Lt{a b:ByteArray}(d:xg U a b=some v)(t:TypeId):(binOp U t (.string a) (.string b)).run C.P w=.ok v w:=by
 have f:(a.toList==b.toList)=pz a b:=by rw[toList_data,toList_data,pz,qy]
 have h:Op.bytesLess a.toList b.toList=Fh a b:=by rw[toList_data,toList_data,Fh,II]
 cases U<;>simp only[xg,Option.some.injEq]at d
 case add=>
  split at d
  ·rename_i e;cases d;have:=agk e;have c:¬(((a.size+b.size:Nat):Int)>IntKind.i64.max):=by
    rw[size_data,size_data];simp[IntKind.max,IntKind.signed,IntKind.bits];simp at this;omega
   simp only[binOp,Op.stringOp,if_neg c,Sem.run_pure,Ph]
  ·cases d
 all_goals first
  |cases d;done
  |(subst d;simp only[binOp,Op.stringOp,Sem.run_pure,f,h])
end
variable{Q:Bool} {F:Array (String×TypeId)} {O X:Array TypeId}
section
variable{C:dR} {w0:World} {N0:Nat} {G:Nat->Prop} {ρ:Ren} {st dC:St} {w:World} {v:Value}
theorem uq{t:TypeId}{l:TypeDesc}{k b f h:Value}(c:C.P.underlying t=some l)(d:cX ρ k f)(e:cX ρ b h)(a:jm l k b=some Q)(n:Nat):
  (Op.equalIn (n+1) t f h).run C.P w=.ok Q w:=by
 unfold jm at a;split at a
 ·cases d;cases e;cases a;exact run_equalIn_bool' w n t _ _ c
 ·rename_i j m k o b;split at a
  ·rename_i i;have:=sk.1 i;subst this;cases d;cases e;cases a;rw[run_equalIn_int w n t m j _ _ c,vB]
  ·cases a
 ·cases d;cases e;cases a;rw[run_equalIn_string w n t _ _ c,toList_data,toList_data,pz,qy]
 ·cases a
theorem ur(b:nQ C){t:TypeId}{ti:TI}(c:C.tt.get t=some ti)(a:ti.agg=false)(d:E[I]?=some B):
  (part t E I).run C.P w=.ok B w:=by
 unfold part;simp only[Sem.run_bind,BS b c,Result.andThen_ok,a,agp,if_false,d,Sem.run_pure]
theorem Gs(e:nQ C){xs r i j:Array Value}(v:cT ρ xs.toList i.toList)(u:cT ρ r.toList j.toList)(n:Nat):
  ∀{f:List Field} {t:Bool},ua C xs.toList r.toList f=some t->(Op.eqFields (n+1) i j f).run C.P w=.ok t w:=by
 intro f;induction f with
 |nil=>intro t c;simp[ua]at c;subst c;rfl
 |cons A f y=>
  intro t c;simp only[ua]at c;split at c
  ·cases c
  ·rename_i x;have k:A.name≠ "_" :=by simpa using x
   split at c
   ·rename_i ti G b d s p;split at c
    ·cases c
    ·rename_i a;rw[ck]at s p;obtain⟨D,m,o⟩:=v.get s;obtain⟨z,l,q⟩:=u.get p;rw[agl]at m l;split at c
     ·rename_i h;have:=uq (w:=w) (e.und _ _ d) o q h n;simp only[Op.eqFields,ne_eq,k,not_false_eq_true,if_true,Sem.run_bind,ur e d a m,ur e d a l,Result.andThen_ok,this,Bool.not_true,agp,if_false];exact y c
     ·rename_i h;cases c;have:=uq (w:=w) (e.und _ _ d) o q h n;simp only[Op.eqFields,ne_eq,k,not_false_eq_true,if_true,Sem.run_bind,ur e d a m,ur e d a l,Result.andThen_ok,this,agK,Sem.run_pure]
     ·cases c
   ·cases c
theorem Lu{n:Nat}{t b:TypeId}(hu:C.P.underlying t=some (.pointer b))(a:Option Addr):(Op.equalIn (n+1) t (.pointer none) (.pointer a)).run C.P w=.ok a.isNone w:=by
 exact Bo
theorem Lv{n:Nat}{t a:TypeId}(hu:C.P.underlying t=some (.pointer a))(b:Addr):(Op.equalIn (n+1) t (.pointer (some b)) (.pointer none)).run C.P w=.ok false w:=by
 exact Bo
theorem Sv{n:Nat}{t c:TypeId}(b:C.P.underlying t=some (.pointer c))(p a:Addr):(Op.equalIn (n+1) t (.pointer (some p)) (.pointer (some a))).run C.P w=
  (do if(<-sizeOf c)≠0 then sameAddr p a else if p==a then pure true else pure ((<-choose .zeroSizeEq)=1):Sem Bool).run C.P w:=by
 rw[Op.equalIn,Sem.run_bind,run_underlying b,Result.andThen_ok]
theorem Lw{n:Nat}{t:TypeId}(hu:C.P.underlying t=some (.interface F)):(Op.equalIn (n+1) t .nilIface .nilIface).run C.P w=.ok true w:=by
 exact Bo
theorem Pj{n:Nat}{t:TypeId}(hu:C.P.underlying t=some (.interface F))(a:TypeId)(b:Value):(Op.equalIn (n+1) t .nilIface (.iface a b)).run C.P w=.ok false w:=by
 exact Bo
theorem Pk{n:Nat}{t:TypeId}(hu:C.P.underlying t=some (.interface F))(a:TypeId)(b:Value):(Op.equalIn (n+1) t (.iface a b) .nilIface).run C.P w=.ok false w:=by
 exact Bo
theorem Pl{n:Nat}{t f:TypeId}(hu:C.P.underlying t=some (.slice f))(a:Option Addr)(e b c d:Nat):(Op.equalIn (n+1) t (.slice none e b) (.slice a c d)).run C.P w=.ok a.isNone w:=by
 exact Bo
theorem Pm{n:Nat}{t f:TypeId}(hu:C.P.underlying t=some (.slice f))(d:Addr)(e b c a:Nat):(Op.equalIn (n+1) t (.slice (some d) e b) (.slice none c a)).run C.P w=.ok false w:=by
 exact Bo
theorem Lx{n:Nat}{t c b:TypeId}(hu:C.P.underlying t=some (.map c b))(a:Option Nat):(Op.equalIn (n+1) t (.map none) (.map a)).run C.P w=.ok a.isNone w:=by
 exact Bo
theorem Ly{n:Nat}{t c b:TypeId}(hu:C.P.underlying t=some (.map c b))(a:Nat):(Op.equalIn (n+1) t (.map (some a)) (.map none)).run C.P w=.ok false w:=by
 exact Bo
theorem Lz{n:Nat}{t:TypeId}(hu:C.P.underlying t=some (.func O X Q)):(Op.equalIn (n+1) t .nilFunc .nilFunc).run C.P w=.ok true w:=by
 exact Bo
theorem Pn{n:Nat}{t:TypeId}(hu:C.P.underlying t=some (.func O X Q))(f:Fn)(a b:Array Value):(Op.equalIn (n+1) t .nilFunc (.func f a b)).run C.P w=.ok false w:=by
 exact Bo
theorem Po{n:Nat}{t:TypeId}(hu:C.P.underlying t=some (.func O X Q))(f:Fn)(a b:Array Value):(Op.equalIn (n+1) t (.func f a b) .nilFunc).run C.P w=.ok false w:=by
 exact Bo
theorem zQ(a:BinOp)(t:TypeId)(c b:Operand)(p d:Option Addr):(eqGuard a t c b (.pointer p) (.pointer d)).run C.P w=.ok () w:=by cases a<;>rfl
theorem VJ(a:BinOp)(t:TypeId)(c b:Operand)(d:TypeId)(e:Value):(eqGuard a t c b .nilIface (.iface d e)).run C.P w=.ok () w:=by cases a<;>rfl
theorem VL(a:BinOp)(t:TypeId)(c b:Operand)(d:TypeId)(e:Value):(eqGuard a t c b (.iface d e) .nilIface).run C.P w=.ok () w:=by cases a<;>rfl
theorem IJ(a:BinOp)(t:TypeId)(f e:Operand)(p h:Option Addr)(i b c d:Nat):(eqGuard a t f e (.slice p i b) (.slice h c d)).run C.P w=.ok () w:=by cases a<;>rfl
theorem Fl(a:BinOp)(t:TypeId)(c b:Operand)(p d:Option Nat):(eqGuard a t c b (.map p) (.map d)).run C.P w=.ok () w:=by cases a<;>rfl
theorem Sw(a:BinOp)(t:TypeId)(c b:Operand):(eqGuard a t c b .nilFunc .nilFunc).run C.P w=.ok () w:=by cases a<;>rfl
theorem Sx(a:BinOp)(t:TypeId)(e c:Operand)(f:Fn)(d b:Array Value):(eqGuard a t e c .nilFunc (.func f d b)).run C.P w=.ok () w:=by cases a<;>rfl
theorem Sy(a:BinOp)(t:TypeId)(e c:Operand)(f:Fn)(d b:Array Value):(eqGuard a t e c (.func f d b) .nilFunc).run C.P w=.ok () w:=by cases a<;>rfl
theorem VN(a:BinOp)(t:TypeId)(e c:Operand)(d b:Bool):(eqGuard a t e c (.bool d) (.bool b)).run C.P w=.ok () w:=by cases a<;>rfl
theorem NP(a:BinOp)(t:TypeId)(e d:Operand)(f c:IntKind)(h b:Int):(eqGuard a t e d (.int f h) (.int c b)).run C.P w=.ok () w:=by cases a<;>rfl
theorem NQ(a:BinOp)(t:TypeId)(e c:Operand)(d b:ByteArray):(eqGuard a t e c (.string d) (.string b)).run C.P w=.ok () w:=by cases a<;>rfl
theorem Sz(a:BinOp)(t:TypeId)(c b:Operand)(d:(kA c||kA b)=true):(eqGuard a t c b .nilIface .nilIface).run C.P w=.ok () w:=by
 cases a<;>cases c<;>cases b<;>first|rfl|(simp[kA]at d;done)
theorem NR(q:nQ C){t:TypeId}{A G:Operand}{g b p m:Value}(e:cX ρ g p)(d:cX ρ b m)(f:O9 C t A G g b=some Q)(v:BinOp):
  (∀n,(Op.equalIn (n+2) t p m).run C.P w=.ok Q w)/\(eqGuard v t A G p m).run C.P w=.ok () w:=by
 unfold O9 at f;split at f
 ·cases f
 ·rename_i ti z;have a:=q.und _ _ z;split at f
  ·rename_i c;cases f;cases e;rw[c]at a;cases d<;>exact⟨fun n=>Lu a _,zQ _ _ _ _ _ _⟩
  ·rename_i h c;cases f;cases d;rw[c]at a;cases e
   ·exact(h Z).elim
   ·exact⟨fun n=>Lv a _,zQ _ _ _ _ _ _⟩
  ·rename_i L I J _ c;rw[c]at a;split at f
   ·rename_i K E r B x R;split at f
    ·rename_i i;simp only[ago]at i;have D:=agv.mp i.1;have:=agm i.2;subst this;cases f;obtain⟨y,P,rfl⟩:=qx e;obtain⟨H,l,rfl⟩:=qx d;rw[P]at l;cases l;refine⟨?_,zQ _ _ _ _ _ _⟩;have h:K.size≠0:=om;have k:((⟨y.b,y.d+r,none⟩:Addr)==⟨y.b,y.d+x,none⟩)=agj r x:=by
      rw[agt,agM,beq_iff_eq,Addr.mk.injEq];constructor
      ·rintro⟨_,f,_⟩;omega
      ·rintro f;exact⟨rfl,om,rfl⟩
     intro n;rw[Sv a];simp only[Sem.run_bind,Result.andThen_ok,fO q R,ne_eq,h,not_false_eq_true,if_true,sameAddr,beq_self_eq_true,Sem.run_pure,k]
    ·cases f
   ·cases f
  ·rename_i c;rw[c]at a;split at f
   ·rename_i T;cases f;cases e;cases d;exact⟨fun n=>Lw a,Sz _ _ _ _ T⟩
   ·cases f
  ·rename_i c;rw[c]at a;cases f;cases e;cases d;exact⟨fun n=>Pj a _ _,VJ _ _ _ _ _ _⟩
  ·rename_i c;rw[c]at a;cases f;cases e;cases d;exact⟨fun n=>Pk a _ _,VL _ _ _ _ _ _⟩
  ·rename_i j xs F c;rw[c]at a;simp only at f;split at f
   ·cases f
   ·rename_i o;rw[Bool.or_eq_false_iff]at o;cases e with
    |agg e=>
     cases d with
     |agg d=>
      have u:C.P.fieldsOf t=j:=by unfold Program.fieldsOf;rw[a]
      have s:C.P.underlying t=some (.struct (C.P.fieldsOf t)):=by rw[u];exact a
      refine⟨?_,run_eqGuard_agg w v t A G _ _ o.1⟩;intro n;rw[run_equalIn_agg w (n+1) t _ _ s o.2,u];exact Gs q e d n f
  ·rename_i c;rw[c]at a;cases f;cases e;cases d<;>exact⟨fun n=>Pl a _ _ _ _ _,IJ _ _ _ _ _ _ _ _ _ _⟩
  ·rename_i h c;rw[c]at a;cases f;cases d;cases e<;>first|exact(h _ _ rfl).elim|exact(h rfl).elim|exact⟨fun n=>Pm a _ _ _ _ _,IJ _ _ _ _ _ _ _ _ _ _⟩
  ·rename_i c;rw[c]at a;cases f;cases e;cases d<;>exact⟨fun n=>Lx a _,Fl _ _ _ _ _ _⟩
  ·rename_i h c;rw[c]at a;cases f;cases d;cases e<;>first|exact(h rfl).elim|exact⟨fun n=>Ly a _,Fl _ _ _ _ _ _⟩
  ·rename_i c;rw[c]at a;cases f;cases e;cases d;exact⟨fun n=>Lz a,Sw _ _ _ _⟩
  ·rename_i c;rw[c]at a;cases f;cases e;cases d<;>exact⟨fun n=>Pn a _ _ _,Sx _ _ _ _ _ _ _⟩
  ·rename_i c;rw[c]at a;cases f;cases d;cases e<;>exact⟨fun n=>Po a _ _ _,Sy _ _ _ _ _ _ _⟩
  ·refine⟨fun n=>uq a e d f (n+1),?_⟩;unfold jm at f;split at f
   ·cases e;cases d;exact VN _ _ _ _ _ _
   ·cases e;cases d;exact NP _ _ _ _ _ _ _ _
   ·cases e;cases d;exact NQ _ _ _ _ _ _
   ·cases f
end
section
variable{C:dR} {w0:World} {N0:Nat} {G:Nat->Prop} {ρ:Ren} {st dC:St} {w:World} {v:Value}
theorem Cu{t:TypeId}{a b:Value}(c:∀n,(Op.equalIn (n+2) t a b).run C.P w=.ok Q w):(Op.equal t a b).run C.P w=.ok Q w:=c 9998
theorem binOp_eql{t:TypeId}{a b:Value}(h1:∀e c f d,¬(a=.int e c/\b=.int f d))(h2:∀c d,¬(a=.string c/\b=.string d))(h3:∀e c,a≠.float e c)(h4:∀e c d,a≠.complex e c d):
  binOp .eql t a b=(do pure (.bool (<-Op.equal t a b)))/\binOp .neq t a b=(do pure (.bool (!(<-Op.equal t a b)))):=by
 constructor
 ·exact YY
 ·exact YY
theorem cX.NS(e:cX ρ B J):(∀b a,J≠.float b a)/\(∀b a d,J≠.complex b a d):=by
 cases e<;>exact⟨(fun _ _ c=>by cases c),(fun _ _ _ c=>by cases c)⟩
theorem VO(r:nQ C){t:TypeId}{h j:Operand}{s b i f:Value}(c:cX ρ s i)(e:cX ρ b f)(a:Gj C U t h j s b=some v):
  (do eqGuard U t h j i f;binOp U t i f:Sem Value).run C.P w=.ok v w/\cX ρ v v:=by
 unfold Gj at a;split at a
 ·rename_i u G k n;cases c;cases e;have x:(eqGuard U t h j (.int u G) (.int k n)).run C.P w=.ok () w:=NP _ _ _ _ _ _ _ _;rw[Sem.run_bind,x,Result.andThen_ok];split at a
  ·refine⟨Gr a t,?_⟩;unfold uc at a;split at a<;>first|cases a|skip
   split at a<;>cases a<;>exact .int _ _
  ·rename_i q;split at a
   ·rename_i y;have:=sk.1 y;subst this;refine⟨Ls a q t,?_⟩;unfold ub at a;split at a<;>first|(cases a;first|exact .int _ _|exact .bool _)|(split at a<;>cases a<;>exact .int _ _)|cases a
   ·cases a
 ·cases c;cases e;rw[Sem.run_bind,NQ,Result.andThen_ok];refine⟨Lt a t,?_⟩;unfold xg at a;split at a<;>first|(cases a;exact .bool _)|(split at a<;>cases a<;>exact .string _)|cases a
 ·rename_i hi q;have p:∀u h k j,¬(i=.int u h/\f=.int k j):=by
   rintro u h k j ⟨rfl,rfl⟩;cases c;cases e;exact hi _ _ _ _ Z Z
  have m:∀h j,¬(i=.string h/\f=.string j):=by
   rintro h j ⟨rfl,rfl⟩;cases c;cases e;exact q _ _ Z Z
  obtain⟨A,z⟩:=binOp_eql (t:=t) p m c.NS.1 c.NS.2;split at a
  ·cases d:O9 C t h j s b with
   |none=>rw[d]at a;cases a
   |some D=>
    rw[d]at a;cases a;obtain⟨o,l⟩:=NR (w:=w) r c e d .eql;refine⟨?_,.bool _⟩;rw[Sem.run_bind,l,Result.andThen_ok,A,Sem.run_bind,Cu o,Result.andThen_ok,Sem.run_pure]
  ·cases d:O9 C t h j s b with
   |none=>rw[d]at a;cases a
   |some D=>
    rw[d]at a;cases a;obtain⟨o,l⟩:=NR (w:=w) r c e d .neq;refine⟨?_,.bool _⟩;rw[Sem.run_bind,l,Result.andThen_ok,z,Sem.run_bind,Cu o,Result.andThen_ok,Sem.run_pure]
  ·cases a
theorem aax{c:UnOp}(a:cX ρ B J)(b:aUn c B=some v):(Op.unary c J).run C.P w=.ok v w/\cX ρ v v:=by
 unfold aUn at b;split at b
 ·cases a;cases b;exact⟨rfl,.int _ _⟩
 ·cases a;cases b;exact⟨rfl,.int _ _⟩
 ·cases a;cases b;exact⟨rfl,.bool _⟩
 ·cases b
theorem Gt(d:cX ρ B J)(c:ng B st=some (.val v dC)):
  v=B/\dC=st/\J≠.pointer none/\J≠.nilIface/\J≠.nilFunc/\∀n e b,J≠.func (.method n) e b:=by
 unfold ng at c;split at c<;>first|(obtain⟨rfl,rfl⟩:=c9 c)|cases c
 all_goals cases d
 all_goals exact⟨rfl,rfl,(fun a=>by cases a),(fun a=>by cases a),(fun a=>by cases a),(fun _ _ _ a=>by cases a)⟩
theorem yp(d:nQ C){t:TypeId}(f:cX ρ B J)(a:gU C t B st=some (.val v dC)):
  (Instr.makeInterface t J).run C.P w=.ok (.iface t J) w/\v=.iface t B/\dC=st/\cX ρ v (.iface t J):=by
 unfold gU at a;split at a
 ·rename_i ti e;split at a
  ·cases a
  ·rename_i b;obtain⟨rfl,rfl⟩:=c9 a;refine⟨?_,Z,Z,.iface t f⟩;unfold Instr.makeInterface;rw[Sem.run_bind,ed d e,Result.andThen_ok];split
   ·rename_i c h;exact absurd h (b c)
   ·rfl
 ·cases a
theorem D9{C:dR}{a:Array Field}{c b:Nat}(d:gJ C a I=some (c,b)):∃e ti,a[I]?=some e/\C.tt.get e.type=some ti/\e.offset=c/\ti.size=b:=by
 unfold gJ at d;split at d
 ·rename_i e f;split at d
  ·rename_i ti h;cases d;rw[ck,agl]at f;exact⟨e,ti,f,h,Z,Z⟩
  ·cases d
 ·cases d
theorem Ea(h:nQ C){t:TypeId}(r:cX ρ B J)(a:fI C t B I st=some (.val v dC)):
  ∃e,(Instr.fieldAt t J I).run C.P w=.ok e w/\cX ρ v e/\dC=st:=by
 unfold fI at a;split at a
 ·rename_i ti b o k;obtain⟨u,p,rfl⟩:=qx r;split at a
  ·rename_i i j;split at a
   ·rename_i s l m;split at a
    ·rename_i c;obtain⟨rfl,rfl⟩:=c9 a;obtain⟨x,q,n,f,rfl,rfl⟩:=D9 m;have d:q.size≠0:=by have:=agv.mp c;omega
     refine⟨.pointer (some ⟨u.b,u.d+(o+x.offset),none⟩),?_,.ptr p,Z⟩;simp only[Instr.fieldAt,Sem.run_bind,ed h k,j,Result.andThen_ok,n,Instr.sureAddr,Sem.run_pure,fieldPlace,fO h f,if_neg d,kS,agI]
    ·cases a
   ·cases a
  ·cases a
 ·cases a
theorem IK(d:nQ C){t:TypeId}(f:cT ρ H E.toList)(b:Cn C t H I=some B):
  ∃c,(part t E I).run C.P w=.ok c w/\cX ρ B c:=by
 unfold Cn at b;split at b
 ·rename_i ti e;split at b
  ·rename_i a;split at b
   ·rename_i h;cases b;refine⟨.agg (E.extract I (I+ti.size)),?_,.agg ?_⟩
    ·simp only[part,Sem.run_bind,BS d e,a,Result.andThen_ok,if_true,fO d e,Sem.run_pure]
    ·have:(E.extract I (I+ti.size)).toList=(E.toList.drop I).take ti.size:=by
      simp[List.extract_eq_take_drop]
     rw[this];simpa using(f.drop I).take ti.size
   ·cases b
  ·rename_i a;rw[ck]at b;obtain⟨c,i,j⟩:=f.get b;rw[agl]at i;exact⟨c,ur d e a i,j⟩
 ·cases b
theorem Pp(e:nQ C){t:TypeId}(b:cX ρ B J)(a:xh C t B I st=some (.val v dC)):
  ∃d,(Instr.field t J I).run C.P w=.ok d w/\cX ρ v d/\dC=st:=by
 unfold xh at a;split at a
 ·rename_i ti n j;cases b with
  |agg b=>
   split at a
   ·rename_i f h;split at a
    ·rename_i l c;split at a
     ·rename_i p i;obtain⟨rfl,rfl⟩:=c9 a;rw[ck,agl]at c;obtain⟨k,o,m⟩:=IK (w:=w) e b i;refine⟨k,?_,m,Z⟩;simp only[Instr.field,Sem.run_bind,ed e j,h,Result.andThen_ok,c,asAgg,Sem.run_pure,o]
     ·cases a
    ·cases a
   ·cases a
 ·cases a
theorem Eb(f:nQ C){t:TypeId}{z r:Value}(q:cX ρ B J)(hi:cX ρ z r)(c:gv C t B z st=some (.val v dC)):
  ∃p,(Instr.indexAt t J r).run C.P w=.ok p w/\cX ρ v p/\dC=st:=by
 unfold gv at c;split at c
 ·rename_i ti b o len y x k i;split at c
  ·rename_i l h;split at c
   ·rename_i m e;split at c
    ·rename_i d;obtain⟨rfl,rfl⟩:=c9 c;have j:=agv.mp d;cases hi;cases q with
     |jp K D=>omega
     |@slice _ _ _ _ u s n G A=>
      refine⟨.pointer (some ⟨s.b,s.d+(o+k*m.size),none⟩),?_,.ptr n,Z⟩;have a:(0:Int)<=agF k/\agF k<(len:Int):=by simp;omega
      simp only[Instr.indexAt,asIntOf,Sem.run_bind,Sem.run_pure,ed f i,h,Result.andThen_ok,if_pos a,fO f e,kS,agI];simp
    ·cases c
   ·cases c
  ·cases c
 ·rename_i ti b o x k i;split at c
  ·rename_i len l h;split at c
   ·rename_i m e;split at c
    ·rename_i d;obtain⟨rfl,rfl⟩:=c9 c;have j:=agv.mp d;cases hi;obtain⟨s,n,rfl⟩:=qx q;refine⟨.pointer (some ⟨s.b,s.d+(o+k*m.size),none⟩),?_,.ptr n,Z⟩;have a:(0:Int)<=agF k/\agF k<(len:Int):=by simp;omega
     simp only[Instr.indexAt,asIntOf,Sem.run_bind,Sem.run_pure,ed f i,h,Result.andThen_ok,Instr.sureAddr,if_pos a,fO f e,kS,agI];simp
    ·cases c
   ·cases c
  ·cases c
 ·cases c
theorem Pq(d:nQ C){t:TypeId}{z o:Value}(e:cX ρ B J)(hi:cX ρ z o)(a:ue C t B z st=some (.val v dC)):
  ∃j,(Instr.index t J o).run C.P w=.ok j w/\cX ρ v j/\dC=st:=by
 unfold ue at a;split at a
 ·rename_i ti s r l h;split at a
  ·rename_i f;split at a
   ·rename_i b k;obtain⟨rfl,rfl⟩:=c9 a;cases hi;cases e;rw[ck,agl]at k;have n:s[l]?=some b:=k;refine⟨.int .u8 b.toNat,?_,.int _ _,Z⟩;have p:(0:Int)<=agF l:=by simp
    simp only[Instr.index,asIntOf,Sem.run_bind,Sem.run_pure,ed d h,f,Result.andThen_ok,if_pos p];simp[n]
   ·cases a
  ·cases a
 ·rename_i ti D r l h;split at a
  ·rename_i len u f;split at a
   ·rename_i G m;split at a
    ·rename_i i;split at a
     ·rename_i P y;obtain⟨rfl,rfl⟩:=c9 a;cases hi;cases e with
      |agg e=>
       have q:=agv.mp i;obtain⟨x,K,A⟩:=IK (w:=w) d e y;refine⟨x,?_,A,Z⟩;have c:(0:Int)<=agF l/\agF l<(len:Int):=by simp;omega
       simp only[Instr.index,asIntOf,Sem.run_bind,Sem.run_pure,ed d h,f,Result.andThen_ok,if_pos c,fO d m];simpa using K
     ·cases a
    ·cases a
   ·cases a
  ·cases a
 ·cases a
theorem IL(a:cX ρ B J)(b:pB B I st=some (.val v dC)):
  ∃c,(Instr.extract J I).run C.P w=.ok c w/\cX ρ v c/\dC=st:=by
 unfold pB at b;split at b
 ·cases a with
  |tuple a=>
   split at b
   ·rename_i i d;obtain⟨rfl,rfl⟩:=c9 b;rw[ck]at d;obtain⟨e,f,h⟩:=a.get d;rw[agl]at f;exact⟨e,by simp[Instr.extract,f],h,Z⟩
   ·cases b
 ·cases b
theorem Gu{ti:TI}(a:ti.zero.all flat=true)(b:Iz ti.agg ti.zero=some B)(ρ:Ren):cX ρ B B:=by
 unfold Iz at b;split at b
 ·cases b;exact .agg (jI a ρ)
 ·split at b
  ·rename_i c;cases b;rw[c]at a;exact uo (by simpa using a) ρ
  ·cases b
theorem Cv(f:nQ C){xt t:TypeId}(o:cX ρ B J)(b:jg C B t Q st=some (.val v dC)):
  ∃j,(Instr.typeAssert J xt t Q).run C.P w=.ok j w/\cX ρ v j/\dC=st:=by
 unfold jg at b;split at b
 ·cases b
 ·rename_i ti d;obtain⟨q,m,l⟩:=mg f d w;have c:=l.mk;split at b
  ·cases b
  ·rename_i hd;have hu:=ed f d w;split at b
   ·rename_i s r;cases o with
    |@iface _ _ k n=>
    split at b
    ·rename_i h;have:=agm h;subst this;obtain⟨rfl,rfl⟩:=c9 b;cases Q with
     |true=>
      refine⟨.tuple #[k,.bool true],?_,.tuple (.cons n (.cons (.bool _) .nil)),Z⟩;exact YO
     |false=>
      refine⟨k,?_,n,Z⟩;exact YO
    ·rename_i h;have i:=agQ h;split at b
     ·rename_i p a;rw[c]at a;cases a;obtain⟨rfl,rfl⟩:=c9 b;refine⟨.tuple #[q,.bool false],?_,.tuple (.cons (Gu (f.yn _ _ d) c ρ) (.cons (.bool _) .nil)),Z⟩;unfold Instr.typeAssert;rw[Sem.run_bind,hu,Result.andThen_ok];split<;>first|(rename_i e;exact absurd e (hd _))|(rename_i e _;exact absurd e (hd _))|skip
      all_goals first|(rename_i e;cases e;rw[if_neg i];simp[m])|(rename_i e;cases e)|simp_all
     ·cases b
   ·cases o;split at b
    ·rename_i p a;rw[c]at a;cases a;obtain⟨rfl,rfl⟩:=c9 b;refine⟨.tuple #[q,.bool false],?_,.tuple (.cons (Gu (f.yn _ _ d) c ρ) (.cons (.bool _) .nil)),Z⟩;unfold Instr.typeAssert;rw[Sem.run_bind,hu,Result.andThen_ok];split<;>first|(rename_i e;exact absurd e (hd _))|(rename_i e _;exact absurd e (hd _))|skip
     all_goals first|(simp[m];done)|(rename_i e;cases e)|simp_all
    ·cases b
   ·cases b
end
variable{W:Option Addr}
section
variable{C:dR} {w0:World} {N0:Nat} {G:Nat->Prop} {ρ:Ren} {st dC:St} {w:World} {v:Value}
theorem di.drewN(a:di w0 N0 G ρ st w)(b:Nat):di w0 N0 G ρ st {w with drawn:=b}:=a.Sr ⟨rfl,rfl,rfl,agD _,fun _ _=>rfl⟩
theorem Gv(h:di w0 N0 G ρ st w)(e:cX ρ B J){es n:Nat}{xs:List Value}(c:rf B=some n)(a:ii st es n B=some xs)(m:Program):
  ∃d,(Builtin.lenOf J).run m w=.ok n w/\(Builtin.firstCells es n J).run m w=.ok d w/\cT ρ xs d.toList:=by
 unfold rf at c;split at c
 ·rename_i p len q;cases c;cases e with
  |me=>simp[ii]at a;subst a;exact⟨#[],rfl,rfl,.nil⟩
  |jp p v=>
   refine⟨#[],Z,?_,?_⟩
   ·simp[Builtin.firstCells,loadCells,loadCellsFrom]
   ·obtain⟨b,o,f⟩:=p;cases f with
    |some A=>simp[ii]at a
    |none=>
     simp only[ii,Nat.zero_mul]at a;have:=fk a;cases xs with
     |nil=>exact .nil
     |cons z x=>simp at this
  |slice k j u=>
   simp only[ii]at a;obtain⟨i,y,t⟩:=h.read k a m;exact⟨i,Z,y,t⟩
 ·rename_i s;cases c;cases e;simp only[ii,Option.some.injEq]at a;subst a;refine⟨(s.extract 0 s.data.toList.length).data.map fun b=>.int .u8 b.toNat,?_,Z,?_⟩
  ·show Result.ok s.size w=_;rw[size_data]
  ·have:(s.extract 0 s.data.toList.length)=s:=by
    rw[<-size_data];exact ByteArray.extract_zero_size
   rw[this];simp only[ofBytes,List.take_length,Array.toList_map];generalize s.data.toList=r;induction r with
   |nil=>exact .nil
   |cons B r l=>exact .cons (.int _ _) l
 ·cases c
theorem xk(a:di w0 N0 G ρ st w){es dP fo b o len n:Nat}{c:List Value}(d:st.get b=some (.cells c es dP fo)):di w0 N0 G ρ (iU st es dP fo b o len n c) w:=
 a.weaken pG (fun _ _ e=>lq e) (Fj a.wf (a.wf.lt _ _ d))
theorem ri{es b o len d n:Nat}{xs:List Value}(f:¬len+n<=d)(a:fP st es (some ⟨b,o,none⟩) len d n xs=some (.val v dC)):
  ∃c dP fo old,st.get b=some (.cells c es dP fo)/\b≠0/\gq st b o (len*es)=some old/\v=.slice (some ⟨st.n,0,none⟩) (len+n) (len+n)/\dC=grown st es dP fo b o len n c old xs:=by
 unfold fP at a;have h:agn (len+n) d=false:=by
  cases i:agn (len+n) d with
  |false=>rfl
  |true=>exact absurd (agk i) f
 simp only[h]at a;split at a
 ·rename_i c l dP fo k;split at a
  ·rename_i old e j;rw[ago]at e;have:=agm e.1;subst this;obtain⟨rfl,rfl⟩:=c9 a;exact⟨c,dP,fo,old,k,fun m=>by subst m;exact absurd e.2 dc,j,Z,Z⟩
  ·cases a
 ·cases a
theorem zR(h:di w0 N0 G ρ st w){es len z f n:Nat}{p:Option Addr}{xs:List Value}(ap:Program)(j:cX ρ (.slice W len z) (.slice p len f)) 
  (a:cT ρ xs E.toList) (ah:xs.length=n*es) (aa:xs.all fM=true) (k:fP st es W len z n xs=some (.val v dC)) (K:len+n<=f) (aN:0<es):
  ∃ai w',((match p with|some an=>storeCells (an.add (len*es)) E.toList|none=>pure ()):Sem Unit).run ap w=.ok () w'/\Kept w0 N0 G ρ dC v (.slice p (len+n) f) w' ai:=by
 by_cases O:len+n<=z
 ·have ab:agn (len+n) z=true:=Nat.ble_eq_true_of_le O;unfold fP at k;simp only[ab]at k;cases j with
  |me=>
   obtain⟨rfl,rfl⟩:=c9 k;have:n=0:=om;subst this;exact⟨ρ,w,Z,Ren.le_refl _,h,.me⟩
  |jp an ay=>
   have C:n=0:=om;subst C;have al:xs=[]:=by cases xs with|nil=>rfl|cons _ _=>simp at ah
   subst al;have y:E.toList=[]:=by cases ac:E.toList with|nil=>rfl|cons _ _=>rw[ac]at a;cases a
   obtain⟨b,o,aw⟩:=an;cases aw with
   |some aV=>cases k
   |none=>obtain⟨rfl,rfl⟩:=c9 k;exact⟨ρ,w,by rw[y];rfl,Ren.le_refl _,h,.jp _ _⟩
  |@slice b o _ _ _ l hl Y H=>
   cases xs with
   |nil=>
    obtain⟨rfl,rfl⟩:=c9 k;have y:E.toList=[]:=by cases ac:E.toList with|nil=>rfl|cons _ _=>rw[ac]at a;cases a
    exact⟨ρ,w,by rw[y];rfl,Ren.le_refl _,h,.slice hl Y H⟩
   |cons aU aS=>
    simp only at k;split at k
    ·rename_i aK aA;obtain⟨rfl,rfl⟩:=c9 k;obtain⟨w',L,ae,_⟩:=h.write hl aA a ap;refine⟨ρ,w',?_,Ren.le_refl _,ae,.slice hl Y H⟩;simp only[kS,agI];exact L
    ·cases k
 ·cases j with
  |me=>omega
  |jp an ay=>omega
  |@slice b o _ _ _ l hl Y H=>
   obtain⟨c,dP,fo,old,hg,ak,L,rfl,rfl⟩:=ri O k;have N:=(h.xT _ _ hl).2.1 ak;have R:=xk (es:=es) (o:=o) (len:=len) (n:=n) h hg;obtain⟨aD,r,lo,hi,e,F⟩:=h.obj _ _ _ hl hg;have af:=F.es;have aP:=F.size;have U:=a.length;simp only[agu]at U;have aB:(len+n)*es<=f*es:=agG _ K;have aq:(len+n)*es=len*es+n*es:=agH _ _ _;rw[af]at H;obtain⟨w',aj,j⟩:=uj (P:=ap) E.toList w l.b (l.d+o+len*es) 0 aD r lo hi e (by simp;omega) (fun aQ ad t=>F.Lm N.2 aQ (by simp at t;omega)) (a.NO aa);obtain⟨P,m,az,am⟩:=j.here;have ax:=h.xT _ _ hl;have aG:=h.Fi;have ao:=j.size;have aF:=fk L;obtain⟨aR,aJ,f0,aT,M,aE,rfl⟩:=o8 L;rw[hg]at M;cases M;refine⟨ρ.add st.n ⟨l.b,l.d+o,es,l.sz,l.rw⟩,w',?_,?_,?_,?_⟩
   ·simp only[kS];exact aj
   ·exact ei h.ij
   ·have C:(iU st es dP fo b o len n c).n=st.n:=pG;have T:=R.extend (dC:=grown st es dP fo b o len n c ((c.drop o).take (len*es)) xs) (w':=w') (o:=.cells ((c.drop o).take (len*es)++xs) es dP (fo+o)) (l:=⟨l.b,l.d+o,es,l.sz,l.rw⟩)
     (by rw[C];rfl) (by intro x;rw[C];exact kC x) (ym h.wf hg) ⟨j.os,j.tape,j.output,om,fun x a=>j.other x om⟩ N (by simp;omega) ?_ ?_ ?_ ?_
    ·rw[C]at T;exact T
    ·intro x A V D7 hgx;by_cases zG:A.b=l.b
     ·cases V with
      |dead=>trivial
      |cells cx aC X S=>
       have Bq:=(lq hgx).resolve_left (by intro e;cases e);have I:X=dP/\l.d+S=A.d+fo:=by
        by_cases Vr:x=b
        ·subst Vr;rw[hg]at Bq;cases Bq;rw[hl]at D7;cases D7;exact⟨Z,Z⟩
        ·have:=h.sep _ _ _ _ _ _ hl D7 zG.symm hg Bq (fun e=>Vr e.symm);exact⟨this.1.symm,this.2⟩
       obtain⟨rfl,av⟩:=I;have aL:=Gp h.wf hg hgx;obtain⟨aO,ar,aM,aH,Q,g⟩:=h.obj _ _ _ D7 Bq;rw[zG,e]at Q;cases Q;rw[zG];refine⟨P,r,lo,hi,m,g.es,by rw[az];exact g.size,g.fits,fun i v hi'=>?_,g.Lm⟩;have au:i<cx.length:=by
        exact ach
       obtain⟨u,d,q⟩:=g.cell _ _ hi';refine⟨u,?_,q⟩;rw[am,if_neg (by simp;omega)];exact d
      |_=>
       exact YX
     ·rw[j.other _ zG];exact R.obj _ _ _ D7 hgx
    ·have B:=ei (l:=⟨l.b,l.d+o,es,l.sz,l.rw⟩) R.ij;refine⟨P,r,lo,hi,m,Z,by simp;omega,?_,fun i v hi'=>?_,F.Lm⟩
     ·simp;omega
     ·have J:((c.drop o).take (len*es)).length=len*es:=by simp;omega
      show ∃u,P[l.d+o+i]?=some u/\_;rw[am];by_cases ag:i<len*es
      ·rw[agB om,agS,if_pos ag,agT]at hi';obtain⟨u,d,q⟩:=F.cell _ _ hi';refine⟨u,?_,q.mono B⟩;rw[if_neg om,<-d];congr 1;omega
      ·rw[agJ om,J]at hi';obtain⟨u,d,q⟩:=a.get hi';have aI:i-len*es<E.toList.length:=by
        rcases agA (i-len*es) E.toList.length with hh|hh
        ·exact hh
        ·rw[ags hh]at d;cases d
       refine⟨u,?_,q.mono B⟩;rw[if_pos om,<-d];congr 1;omega
    ·intro x A V D7 hgx zG;cases V with
     |dead=>trivial
     |cells cx aC X S=>
      have Bq:=(lq hgx).resolve_left (by intro e;cases e);show X=dP/\A.d+(fo+o)=l.d+o+S;by_cases Vr:x=b
      ·subst Vr;rw[hg]at Bq;cases Bq;rw[hl]at D7;cases D7;exact⟨Z,om⟩
      ·have:=h.sep _ _ _ _ _ _ hl D7 zG.symm hg Bq (fun e=>Vr e.symm);exact⟨this.1.symm,by have:=this.2;omega⟩
     |_=>
      exact YX
    ·refine h.j2.H0 h.sep (fun F=>F=l.b) (fun b l e=>(h.xT _ _ e).2.2) om (fun F _ R=>j.other F R) (fun F a=>?_) (fun x A e=>?_) (fun x A aW e s ad t=>?_)
     ·exact⟨b,l,_,hl,a.symm,hg,by(intro e;cases e),by(intro _ _ _ e;cases e)⟩
     ·by_cases m:x=(iU st es dP fo b o len n c).n
      ·subst m;rw[c7]at e;cases e;exact .inr (.inr ⟨b,l,hl,rfl⟩)
      ·rw[dU _ _ m]at e;exact .inl e
     ·rw[kC]at t;by_cases m:x=st.n
      ·rw[if_pos m]at t;cases t
      ·rw[if_neg m]at t;rw[dU _ _ (by rw[C];exact m)]at ad;exact⟨ad,(lq t).resolve_left (by intro e;cases e)⟩
   ·have D:cX (ρ.add st.n ⟨l.b,l.d+o,es,l.sz,l.rw⟩) (.slice (some ⟨st.n,0,none⟩) (len+n) (len+n)) (.slice (some ⟨l.b,l.d+o+0,none⟩) (len+n) f):=
     .slice (l:=⟨l.b,l.d+o,es,l.sz,l.rw⟩) (c7 _ _ _) K (by simp;omega)
    exact D
theorem NT{a b:Nat}(d:¬a<=b):agn a b=false:=by
 cases c:agn a b with
 |false=>rfl
 |true=>exact absurd (agk c) d
theorem Gw(h:di w0 N0 G ρ st w){es len K t n:Nat}{y:Option Addr}{xs:List Value}(ay:Program)(ag:cX ρ (.slice W len K) (.slice y len t)) 
  (F:cT ρ xs E.toList) (av:xs.length=n*es) (r:fP st es W len K n xs=some (.val v dC)) (am:t<len+n) (k:TypeId):
  ∃old,(Builtin.firstCells es len (.slice y len t)).run ay w=.ok old w/\∀(d:Array Value) (a:Nat),len+n<=a->d.size=(a-(len+n))*es->
   ∃z,Kept w0 N0 G ρ dC v (.slice (some ⟨w.heap.size,0,none⟩) (len+n) a) {w with heap:=w.heap.push (.cells (old++E++d) k)} z:=by
 have O:=F.length;simp only[agu]at O;have x:∀(Zz:St) (al an:Nat) (e:List Value) (old d:Array Value) (a:Nat) (p:St),di w0 N0 G ρ Zz w->Zz.n=st.n->p.n=st.n+1->(∀T,p.get T=if T=st.n then some (.cells (e++xs) es al an)else Zz.get T)->WF p->
   cT ρ e old.toList->e.length=len*es->len+n<=a->d.size=(a-(len+n))*es->
   ∃z,Kept w0 N0 G ρ p (.slice (some ⟨st.n,0,none⟩) (len+n) (len+n)) (.slice (some ⟨w.heap.size,0,none⟩) (len+n) a) {w with heap:=w.heap.push (.cells (old++E++d) k)} z:=by
  intro Zz al an e old d a p m H ax L N D I af aw;have U:=D.length;simp only[agu]at U;have ao:a*es=(len+n)*es+(a-(len+n))*es:=by rw[<-agH];congr 1;omega
  have ai:(len+n)*es=len*es+n*es:=agH _ _ _;have ad:(old++E++d).size=a*es:=by simp;omega
  have S:=h.Fi;have q:∀J,J<w.heap.size->(w.heap.push (.cells (old++E++d) k))[J]?=w.heap[J]?:=fun J m=>by rw[agz,if_neg om]
  have R:=m.extend (dC:=p) (w':={w with heap:=w.heap.push (.cells (old++E++d) k)}) (o:=.cells (e++xs) es al an) (l:=⟨w.heap.size,0,es,a*es,true⟩)
   om (by intro T;rw[H];exact L T) N ⟨rfl,rfl,rfl,by simp,fun J m=>q J om⟩ ⟨S,rfl⟩ sm
   (fun T M ap i j=>by rw[show({w with heap:=w.heap.push (.cells (old++E++d) k)}:World).heap[M.b]?=w.heap[M.b]? from q _ (m.xT _ _ i).2.2];exact m.obj _ _ _ i j)
   ?_ (fun T M ap i j ar=>by have:=(m.xT _ _ i).2.2;simp at ar;omega)
   (m.j2.H0 m.sep (fun _=>False) (fun b l V=>(m.xT _ _ V).2.2) sm (fun J i _=>q J i) (fun _ F=>F.elim) (fun b au V=>by
    by_cases P:b=Zz.n
    ·subst P;rw[c7]at V;cases V;exact .inr (.inl (agD _))
    ·rw[dU _ _ P]at V;exact .inl V) (fun b au aD V s i j=>by
    rw[L]at j;by_cases P:b=st.n
    ·rw[if_pos P]at j;cases j
    ·rw[if_neg P]at j;rw[dU _ _ om]at i;exact⟨i,j⟩))
  ·rw[H]at R;refine⟨_,ei h.ij,R,?_⟩;exact .slice (l:=⟨w.heap.size,0,es,a*es,true⟩) (c7 _ _ _) af sm
  ·have Q:=ei (l:=⟨w.heap.size,0,es,a*es,true⟩) m.ij;refine⟨old++E++d,k,0,0,by simp,Z,ad,?_,fun aj v ac=>?_,fun _ aj _ g=>om⟩
   ·simp;omega
   ·obtain⟨aa,A,ab⟩:=(D.append F).get ac;refine⟨aa,?_,ab.mono Q⟩;show(old++E++d)[0+aj]?=some aa;rw[Nat.zero_add];have Y:aj<(old.toList++E.toList).length:=by
     rcases agA aj (old.toList++E.toList).length with g|g
     ·exact g
     ·rw[ags g]at A;cases A
    rw[<-agl];simp only[Array.toList_append];rw[agB Y];exact A
 have f:¬len+n<=K:=by cases ag<;>omega
 cases ag with
 |me=>
  unfold fP at r;have u:agn (0+n) 0=false:=NT f;simp only[u]at r;obtain⟨rfl,rfl⟩:=c9 r;refine⟨#[],Z,fun d a i j=>?_⟩;have:=x st st.n 0 [] #[] d a (st.new (.cells xs es st.n 0)) h rfl rfl (fun T=>by simpa using dm st _ T) (h.wf.new rfl) .nil sm i j;simpa using this
 |jp az aB=>
  obtain⟨b,o,ak⟩:=az;cases ak with
  |some aE=>
   unfold fP at r;have u:agn (0+n) 0=false:=NT f;simp only[u]at r;cases r
  |none=>
   obtain⟨c,dP,fo,e,C,_,B,rfl,rfl⟩:=ri f r;have I:=fk B;have X:e=[]:=by cases e with|nil=>rfl|cons _ _=>simp at I
   subst X;refine⟨#[],by simp[Builtin.firstCells,loadCells,loadCellsFrom],fun d a i j=>?_⟩;exact x _ dP (fo+o) [] #[] d a _ (xk h C) pG Z kC (ym h.wf C) .nil sm i j
 |@slice b o _ _ _ l aq aC aA=>
  obtain⟨c,dP,fo,e,C,_,B,rfl,rfl⟩:=ri f r;obtain⟨old,ae,ah⟩:=h.read aq B ay;refine⟨old,ae,fun d a i j=>?_⟩;exact x _ dP (fo+o) e old d a _ (xk h C) pG Z kC (ym h.wf C) ah (fk B) i j
theorem Pr(a:Nat):∀(b c:Nat),c<2*a+192->Builtin.growBy a b c<2*a+193:=by
 intro b;induction b with
 |zero=>intro c e;simp[Builtin.growBy];omega
 |succ b d=>
  intro c e;simp only[Builtin.growBy];split
  ·omega
  ·exact d _ om
theorem LA{a c:Nat}(b:c<a):Builtin.nextslicecap a c<=2*a+192:=by
 unfold Builtin.nextslicecap;split
 ·omega
 ·split
  ·omega
  ·have:=Pr a 4 c om;omega
theorem LB(j:nQ C)(h:di w0 N0 G ρ st w){ty:TypeId}(d:cT ρ H E.toList)(c:o6 C O.toList H st=some (.val v dC)):
  rh w0 N0 G ρ dC v ((Builtin.append_ O ty E).run C.P w):=by
 obtain⟨O⟩:=O;obtain⟨E⟩:=E;unfold o6 at c;split at c
 ·rename_i L S s aU F;simp only at F d;subst F;cases d with
  |@cons _ aI _ _ Q d=>
  cases d with
  |@cons _ X _ _ J d=>
  cases d;split at c
  ·rename_i ti aM aG len aO B D;split at c
   ·rename_i e ap;split at c
    ·rename_i l k;split at c
     ·cases c
     ·rename_i i;split at c
      ·cases c
      ·rename_i n aa;split at c
       ·cases c
       ·rename_i xs u;split at c
        ·rename_i p;simp only[ago]at p;obtain⟨⟨⟨⟨⟨aB,aw⟩,aC⟩,aH⟩,aL⟩,aE⟩:=p;have an:=agv.mp aB;have K:=agm aw;have T:=agk aH;have A:=agk aL;have ae:=agm aE;unfold fy at T A;have ag:∃b a,aI=.slice b len a:=by cases Q<;>exact⟨_,_,rfl⟩
         obtain⟨b,a,rfl⟩:=ag;have am:(⟨[L,S]⟩:Array TypeId)[0]?=some L:=rfl;have al:(⟨[L,S]⟩:Array TypeId)[1]?=some S:=rfl;have ac:(⟨[.slice b len a,X]⟩:Array Value)[0]?=some (.slice b len a):=rfl;have aj:(⟨[.slice b len a,X]⟩:Array Value)[1]?=some X:=rfl;by_cases m:len+n<=a
         ·obtain⟨ar,U,N,Y⟩:=Gv h J aa u C.P;obtain⟨t,aJ,q,o⟩:=zR h C.P Q Y K aC c m an;refine⟨t,.slice b (len+n) a,aJ,?_,o⟩;simp only[Builtin.append_,am,al,ac,aj];rw[cb _ (ed j B w)];simp only[ap];rw[cb _ (fO j k w),cb _ (ed j D w)];split
          ·rename_i ab ay;exact absurd ay (i ab)
          ·rw[cb _ (Sem.run_pure (P:=C.P) (w:=w) false)];simp only[agp,if_false];rw[cb _ U];simp only[if_pos m,agK,if_true];rw[cb _ N];cases b with
           |none=>simp only[Sem.run_pure]at q⊢;cases q;rfl
           |some aT=>simp only at q⊢;rw[cb _ q,Sem.run_pure]
         ·have R:a<len+n:=om;have aK:(Question.appendCap (len+n) a e).forced=false:=rfl;obtain⟨aD,r,ad⟩:=Fk j k w;have V:(typeInfo e).run C.P {w with drawn:=w.drawn+1}=.ok aD {w with drawn:=w.drawn+1}:=by
           obtain⟨aF,aS,x,_⟩:=j.VH _ _ k;have ai:(typeInfo e).run C.P w=.ok aF w:=by simp[typeInfo,x]
           rw[r]at ai;cases ai;simp[typeInfo,x]
          have aq:=h.drewN (w.drawn+1);obtain⟨ar,aP,N,Y⟩:=Gv aq J aa u C.P;obtain⟨au,U,_,_⟩:=Gv h J aa u C.P;obtain⟨old,ax,aA⟩:=Gw aq C.P Q Y K c R e;obtain⟨aN,av,af⟩:=mg j k {w with drawn:=w.drawn+1};have ah:aN.cells.size=l.size:=by rw[<-ae,<-af.cells];simp
          generalize g:(Question.appendCap (len+n) a e).cut (w.tape w.drawn (Question.appendCap (len+n) a e))=f;have z:len+n<=f:=by rw[<-g];exact Nat.le_add_right _ _
          obtain⟨t,o⟩:=aA (Builtin.zeroCells aN.cells (f-(len+n))) f z (by simp[Builtin.zeroCells,ah]);refine⟨t,_,_,?_,o⟩;have I:¬(((len+n:Nat):Int)>IntKind.i64.max/\(false=true∨aD.bytes=0)):=by
           rintro⟨x,_⟩;simp[IntKind.max,IntKind.signed,IntKind.bits]at x;omega
          have ak:¬(Builtin.nextslicecap (len+n) a*aD.bytes>2^48):=by
           have az:=LA R;rw[ad];have M:1<=len+n:=om;have aQ:l.bytes<=1099511627776:=Nat.le_trans (by have:=agG l.bytes M;omega) T;have x:Builtin.nextslicecap (len+n) a*l.bytes<=(2*(len+n)+192)*l.bytes:=agG _ az;have aR:(2*(len+n)+192)*l.bytes=2*((len+n)*l.bytes)+192*l.bytes:=by rw[agH,Nat.mul_assoc]
           omega
          have y:∀(ab:Nat) (W:World),(askRoom ab).run C.P W=.ok () W:=by
           intro ab W;unfold askRoom;split
           ·rfl
           ·rfl
          have ao:(choose (Question.appendCap (len+n) a e)).run C.P w=.ok f {w with drawn:=w.drawn+1}:=by
           simp only[choose,Sem.run,aK,agp,if_false,g]
          simp only[Builtin.append_,am,al,ac,aj];rw[cb _ (ed j B w)];simp only[ap];rw[cb _ (fO j k w),cb _ (ed j D w)];split
          ·rename_i ab ay;exact absurd ay (i ab)
          ·rw[cb _ (Sem.run_pure (P:=C.P) (w:=w) false)];simp only[agp,if_false];rw[cb _ U];simp only[if_neg m,agK,if_true];rw[cb _ r];simp only[agp]at I;simp only[if_neg I];rw[cb _ r];simp only[if_neg ak];rw[cb _ ao,cb _ V,cb _ (y _ _),cb _ ax,cb _ N,cb _ av,cb _ (iz _ _),Sem.run_pure]
        ·cases c
    ·cases c
   ·cases c
  ·cases c
 ·cases c
end
end Go.AM
