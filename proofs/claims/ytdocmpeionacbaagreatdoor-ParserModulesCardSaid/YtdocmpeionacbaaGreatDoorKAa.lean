/- Part of the proof. -/
import Derived.Calls
import Derived.Below
import Derived.Laws.Entries
import Derived.WideLaws
import Derived.Laws.Strings
import Derived.Laws.StructEq
import Derived.Laws.World
import Derived.IntWalk
set_option linter.all false
set_option maxHeartbeats 16000000
set_option maxRecDepth 100000
open Nat renaming le_of_ble_eq_true->ais,eq_of_beq_eq_true->ait,beq->aiu,ble->aiv,mul_le_mul_right->aiB,blt->aiC,le_refl->aiE,ne_of_beq_eq_false->aiG,blt_eq->aiH,testBit->aiJ,lt_or_ge->aiK,lt_succ_of_lt->aiL,add_mul->aiM,add_assoc->aiO,sub_zero->aiX,le_trans->aiY
open Bool renaming and_eq_true->aiw,false_eq_true->aix,eq_iff_iff->aiF,not_false->aiS,true->A',false->B'
open Array renaming getElem?_toList->aiy,length_toList->aiz,range->aiQ,getElem?_eq_getElem->aiT,getElem?_modify->ai0,getElem?_push->ai1
open Int renaming ofNat->aiA
open List renaming length_cons->aiD,range->aiI,length_nil->aiN,extract_eq_take_drop->aiR,mem_cons->aiU,getElem?_cons_succ->aiV,all_cons->aiW,getElem?_eq_none->aiZ,getElem?_take->ai2,getElem?_drop->ai3,length->j'
open Option renaming map_some->aiP,some->q',none->u'
open Go renaming Value->C',FuncId->D',IntKind->E',TypeId->F',World->G',Operand->H',Deferred->J',Oper->M',TypeDesc->N'
namespace Go.AM
abbrev n_.{u}(a:Type u):=List a
def W':=@if_neg
def X':=@if_pos
def Y':=@absurd
def Z':=@decide_eq_false
def a_:=@decide_eq_true
def b_:=@if_false
def c_:=@if_true
def d_:=@congrArg
def e_:=@of_decide_eq_false
def f_:=@of_decide_eq_true
def j_:=@decide_eq_true_eq
abbrev cC:Type:=List UInt8
abbrev r3:Type:=D'->List C'->Option C'
variable{A:Prop}
def om(a:A:=by omega):A:=a
def dc(a:A:=by decide):A:=a
def sm(a:A:=by simp):A:=a
def tv:True:=trivial
def Z.{c}{a:Sort c}{b:a}:b=b:=rfl
def B4 (h:A:=by
  refine cN ?_;refine uy (∀p∈x.ps,p.b=cY) Z (λp hp d hd {σ K} hk=>U8 hd (λb hb=>hk b (λq=>hb (q p hp)))) hpl h1 (λbz hbz=>?_);rcases hkd with⟨hk,lj,hex,hm,htg,Ya⟩|⟨hk,lj,Ad,hup,hm,htg,Ya⟩|⟨hk,Ya,Ad,hup,hty,hex,hm,lj,htg⟩
  ·have hb3:decide (Int.ofNat x.k=0)=A':=by rw[hk];rfl
   have hb4:bz=B':=hbz λp hp=>(Ya p hp).1;subst hb4;refine cN ?_;refine uy (∀p∈x.ps,p.vr<=2) Z (λp hp d hd {σ K} hk=>U9 hd (λb hb=>hk b (λq=>hb (q p hp)))) hpl h1 (λbv hbv=>?_);have hb5:bv=B':=hbv λp hp=>(Ya p hp).2;subst hb5;refine cN ?_;refine Ah (hex▸h5) ?_;have hb6:decide (x.m=[])=A':=by rw[hm];rfl
   refine cN ?_;exact a8 0 ⟨Z,by rw[htg];rfl⟩
  ·have hb3:decide (Int.ofNat x.k=0)=B':=by rw[hk];rfl
   have hb4:decide (Int.ofNat x.k=1)=A':=by rw[hk];rfl
   refine cN ?_;refine uy (∀p∈x.ps,p.vr=0) Z (λp hp d hd {σ K} hk=>Va hd (λb hb=>hk b (λq=>hb (q p hp)))) hpl h1 (λbv hbv=>?_);have hb5:bv=B':=hbv λp hp=>Ya p hp;subst hb5;refine cN ?_;refine hz Ad h2 ?_;refine cN ?_;refine hz hup h3 ?_;have hb6:decide (x.m=[])=A':=by rw[hm];rfl
   refine cN ?_;exact a8 0 ⟨Z,by rw[htg];rfl⟩
  have hb3:decide (Int.ofNat x.k=0)=B':=by rw[hk];rfl
  have hb4:decide (Int.ofNat x.k=1)=B':=by rw[hk];rfl
  have hb7:decide (Int.ofNat x.k=2)=A':=by rw[hk];rfl
  have hpn:ps=.cu∨∃b o c,ps=.ps b o 7 c []:=by
   rw[Ya]at h1;cases h1 with
   |nil=>exact .inl rfl
   |ps h=>cases h;exact .inr ⟨_,_,_,rfl⟩
  rcases hpn with rfl|⟨b,o,c,rfl⟩;all_goals
   refine cN ?_;refine hz Ad h2 ?_;refine cN ?_;refine hz hup h3 ?_;refine cN ?_;refine hz hty h4 ?_;refine cN ?_;refine Ah (hex▸h5) ?_;exact a8 0 ⟨Z,Z⟩):A:=h
def xE (h:A:=by
  have TM:=ael;rw[B5,hty]at TM;rw[B5,hty];repeat' first|(change kE _ _ _;first|refine b9 (by with_reducible assumption) ?_|refine a7 (by with_reducible assumption) ?_|refine aZ (λ_=>?_) (λ_=>?_))|refine cI TM rfl rfl ?_
  all_goals first
   |exact a8 1 ⟨rfl,rfl,d_ (λv=>dt.ret (cl v)) (IH (by clear aem ael TM hfi hC abG hex hsz h8 hw h hl ht hk;simp only[j_,decide_eq_false_iff_not,Int.ofNat_eq_natCast]at*;omega)).symm⟩
   |exact ck.arr (fx:=[(2,.bp 1 0)]) (gA:=Vb k m n x num ty lb kd s t l f) (.same ⟨rfl,tv⟩ (by rw[B5,hty];rfl)) (hC () (by clear aem ael TM hfi hC abG hex hsz h8 hw h hl ht hk;simp only[j_,decide_eq_false_iff_not,Int.ofNat_eq_natCast]at*;omega))):A:=h
def II (h:A:=by
  have hH2:oF ⟨mp,oz,nK⟩=jC mp [] oz:=by rw[hH,W' om]
  refine cD ?_;refine nc mp om ?_;refine a7 (by rw[hp'];rfl) ?_;refine cN ?_;refine afW (λn hn'=>?_);have hb3:decide (4096<Int.ofNat n)=B':=Z' (by simp only[Int.ofNat_eq_natCast];omega);refine cN ?_;refine ck.iter (λi:Nat=>[(1,.bp 0 0),(27,.d (.ps b o 2 c (oz.map fT))),(28,cl (j' (oz.map fT))),(29,cl i)]) (λ_=>_) (λi=>j' oz-i) (λi=>i<=j' oz/\jC mp [] oz=jC mp (oz.take i) (oz.drop i)) ?_ 0 ⟨Nat.zero_le _,Z⟩;rintro i ⟨hi,hS⟩;have hml:j' (oz.map fT)=j' oz:=List.length_map _;apply aZ<;>intro h
  ·have hi':i<j' oz:=hml▸eK h;have hx:nth (oz.map fT) i=q' (fT oz[i]):=by rw[cx,List.getElem?_map,List.getElem?_eq_getElem hi'];rfl
   have⟨Yj,Rc⟩:=ahm oz[i] (List.getElem_mem hi');have hx3:=adN _ Yj;rw[List.drop_eq_getElem_cons hi',jC]at hS;refine bZ Z ?_;refine cp _ hx ?_;refine nc oz[i].p om ?_;have hb4:(!fQ oz[i].p)=B':=by rw[Yj];rfl
   refine cN ?_;refine jo oz[i].a (nL Rc) ?_;have hb5:(!c8 oz[i].a)=B':=by rw[Rc];rfl
   refine cN ?_;apply aZ<;>intro h1
   ·have Hu:oz[i].p=mp:=f_ h1;exact a8 0 ⟨Z,by rw[hH2,hS,X' Hu];rfl⟩
   have Hu:¬oz[i].p=mp:=e_ h1;rw[W' Hu]at hS;refine bZ Z ?_;refine a6 ⟨Nat.zero_le _,om,om,om,Z⟩ ?_;refine Re oz[i] (oz.take i) (by rw[List.map_take];rfl) (by rw[List.length_take];omega) _ _ _ 1 Z ?_;apply aZ<;>intro h2
   ·have LJ:(oz.take i).any (pK oz[i])=A':=h2;rw[X' LJ]at hS;exact a8 0 ⟨Z,by rw[hH2,hS];rfl⟩
   have LJ:(oz.take i).any (pK oz[i])=B':=h2;rw[W' (by rw[LJ];decide),List.take_append_getElem hi']at hS;exact⟨i+1,⟨hi',hS⟩,ik,.eP 0 [0],Z,Z⟩
  have hi':j' oz<=i:=hml▸dK h;rw[List.drop_of_length_le hi']at hS;exact a8 0 ⟨Z,by rw[hH2,hS];rfl⟩):A:=h
def gp (h:A:=by
  repeat' split at h
  all_goals first|cases h;done|(cases h;exact⟨_,_,rfl⟩)):A:=h
def kM (a:A:=by
  refine cy ?_;refine lk Z _ _ uz.nil dc (λx j hj=>Y' hj (Nat.not_lt_zero _)) ?_;exact a8 0 ⟨Z,Z⟩):A:=a
def B6 (a:A:=by
  refine cN ?_;apply aZ<;>intro h15
  ·have hx:=hxx (Dw (b:=15) h15);refine cN ?_;refine fC x (nL hx) ?_;rw[hx];refine cN ?_;exact ck.arr (fx:=HA) (gA:=[.box (qm k m n x num ty lb kd),.box [cj b0,cj b1,cj b2,cj b3,cj b4,cj b5,cj b6,.d (.int .i64 j),cj b8]]) .eS (hC () trivial)
  refine cN ?_;exact ck.arr (fx:=HA) (gA:=[.box (qm k m n x num ty lb kd),.box [cj b0,cj b1,cj b2,cj b3,cj b4,cj b5,cj b6,.d (.int .i64 j),cj b8]]) .eS (hC () trivial)):A:=a
def tp (h:A:=by
  induction l generalizing els i with
  |nil=>simp at hi
  |cons a l ih=>
   cases h with
   |cons h1 h2=>
    cases i with
    |zero=>exact⟨_,rfl,h1⟩
    |succ i=>obtain⟨d,a,b⟩:=ih h2 (i:=i) (by simpa using hi);exact⟨d,by simpa using a,b⟩):A:=h
def nf (a:A:=by
  refine cy ?_;refine lk Z _ _ (uz.ps .nil) dc (λx j hj=>Y' hj (Nat.not_lt_zero _)) ?_;exact a8 0 ⟨Z,Z⟩):A:=a
def IJ (b:A:=by
  refine cN ?_;refine Ai N3 (c::r2) om ?_;refine cN ?_;apply aZ<;>intro h5
  ·have h5':(c::r2).all isDigit=B':=uA h5;refine cN ?_;refine a8 0 ⟨Z,Z,_,by rw[hI,h5'];simp;rfl⟩
  have h5':(c::r2).all isDigit=A':=Fh h5;refine cN ?_;have hIt:oG (118::c::r2)=A':=by rw[hI,h5',hB,Z' Hu,a_ LJ];rfl
  rw[hIt];refine ck.iter (λa:Nat×Int=>[(0,cv (c::r2)),(5,.d (.int .i64 a.2)),(39,cl (j' (c::r2))),(40,cl a.1)]) (λ_=>[]) (λa=>j' (c::r2)-a.1) (λa=>a.1<=j' (c::r2)) ?_ (0,0) (Nat.zero_le _);rintro⟨i,x⟩ hi;have hi:i<=j' (c::r2):=hi;apply aZ<;>intro h6
  ·have h6':i<j' (c::r2):=eK h6;refine bZ Z (cp (c::r2)[i] (by rw[cx];exact List.getElem?_eq_getElem h6') ?_);exact⟨(i+1,_),h6',ik,.eS,Z,Z⟩
  refine a8 0 ⟨Z,Z,_,Z⟩):A:=b
def xF (b:A:=by
  refine gU ?_;refine cH R w _ [58] hq ?_;rw[gB (Nat.succ_ne_zero _)];refine ht.err _ (Nat.succ_ne_zero _) hq _ _ (λk m n a f=>?_);refine cy ?_;refine cV.drop 0 ?_ ?_ ?_ ?_
  ·exact Z
  ·exact Z
  ·exact Z
  refine cV.now Z ⟨Z,Z,?_⟩;rw[he];exact⟨dc,_,_,hq,Z⟩):A:=b
def IK (a:A:=by
  refine bZ Z ?_;refine cp (fe x) (by rw[cx];exact hx) ?_;cases acc with
  |nil=>
   intro b3;refine a6 Z (a6 ⟨Nat.le_of_ble_eq_true Z,Nat.le_of_ble_eq_true Z⟩ ?_);refine⟨(j+1,[x.ty]),⟨nH,Aj⟩,ik,?_,Z,Z⟩;exact .pick 1 [0,2] ⟨Z,Z,Z,int_eq (cF om),tv⟩ Z Z Z Z Z dc ⟨Z,Z,Z,Z,tv⟩
  |cons e r=>
   intro b3;have hrl:j' r+1<=4294967296:=by simp only[List.length_cons]at hcl;omega
   refine a6 Z (a6 ⟨Z,Z,by simp,Nat.le_refl _,Ak hrl⟩ ?_);refine a7 Z (a7 (ej (j' r+1)) ?_);refine⟨(j+1,e::(r++[x.ty])),⟨nH,Aj⟩,ik,?_,Z,Z⟩;exact .pick 1 [0,3] ⟨Yk 3 r x.ty,Z,Z,int_eq (cF om),tv⟩ Z Z Z Z Z dc ⟨Z,Z,Vc e r x.ty,fU _ _ _,tv⟩):A:=a
def IL (h:A:=by
  refine cN ?_;rcases els with _|⟨d0,dr⟩
  ·exact ck.arr (fx:=Fi (j' os)) (gA:=[.box [cv [],.d .cu,.d .cu],.box (B0 R z),.box [cv s1,.d Yb,.d .cu],ofR os,.gone]) .eS (hC .cu (hE _ λds h=>by cases h;exact .nil))
  refine kN 4 2 (Fi (j' os)) (es:=31) (l:=d0::dr) Z Z (dF _) ⟨Z,Z,Z,Z,tv⟩ (by repeat' (first|exact tv|exact λh=>Y' (show(3:Nat)=4 from h) dc|refine And.intro ?_ ?_)) ⟨tv,tv,λ_=>⟨Z,by simp⟩,tv⟩ (λb=>?_);exact ck.arr (fx:=Fi (j' os)) (gA:=[.box [cv [],.d .cu,.d .cu],.box (B0 R z),.box [cv s1,.d Yb,.d (.ps b (0*31) 31 (j' dr+1) (List.take (j' dr+1) (List.drop 0 (d0::dr))))],ofR os,.gone]) .eS (hC _ (hE _ λds h=>by rw[eG _ _ sm];exact .ps h sm))):A:=h
def IM (a:A:=by
  refine IN LK s hh om hs ?_;refine bZ Z (bZ Z (a6 ⟨om,hle⟩ ?_));rw[hsl];refine Al _ htl ?_;apply aZ<;>intro h2
  ·refine iP ?_ Z;rw[Am,lN,X' h2];rfl
  refine jo _ htl ?_;apply aZ<;>intro h3
  ·refine iP ?_ Z;rw[Am,lN,W' (by rw[h2];simp),X' h3];rfl
  refine ng _ htl ?_;apply aZ<;>intro h4
  ·refine iP ?_ Z;rw[Am,lN,W' (by rw[h2];simp),W' (by rw[h3];simp),X' h4];rfl
  refine iP ?_ Z;rw[Am,lN,W' (by rw[h2];simp),W' (by rw[h3];simp),W' (by rw[h4];simp)];exact⟨0,_,Z⟩):A:=a
def IP (h:A:=by
  intro i hi;apply aZ<;>intro hc
  ·have hi':i<j' kids:=N4▸eK hc;have⟨d,hx,EI⟩:=h.get hi';refine bZ Z ?_;obtain⟨k2,m2,n2,x2,afX,ty2,lb2,kd2,rfl⟩:=EI.eight;refine cp _ (by rw[cx];exact hx) ?_;have afY:kids[i]∈kids:=List.getElem_mem hi';have hle:=mJ afY;refine ih kids[i] _ om (hkg _ afY) EI ?_;refine⟨i+1,hi',ik,.drop 1 ⟨Z,int_eq ?_,int_eq (cF om),tv⟩ Z Z Z Z Z Z Z,Z,Z⟩;have h3:=rf kids i;rw[vX hi',<-Nat.add_assoc];exact dk om
  have hi':j' kids<=i:=N4▸dK hc;rw[List.take_of_length_le hi'];exact a8 0 ⟨Z,Z⟩):A:=h
def xG (a:A:=by
  repeat' (change kE _ _ _;first|refine b9 (by with_reducible assumption) ?_|refine a7 (by with_reducible assumption) ?_|refine aZ (λ_=>?_) (λ_=>?_))
  all_goals exact a8 0 ⟨rfl,rfl,_,rfl⟩):A:=a
def IQ (a:A:=by
  refine cN ?_;refine ng x.n hln ?_;refine cN ?_;apply aZ<;>intro h3
  ·have Yc:eC x.n=A':=h3;refine cN ?_;refine ng x.tg hlt ?_;refine cN ?_;apply aZ<;>intro h4
   ·have Vd:eC x.tg=A':=h4;have hT2:iv x=A':=by rw[hT,Yc,Vd];simp
    refine cN ?_;refine nh x.m (.inr hm) ?_;refine cN ?_;exact a8 0 ⟨Z,by rw[hT2];rfl⟩
   have Vd:eC x.tg=B':=h4;refine cN ?_;exact a8 0 ⟨Z,by rw[hT,Vd];simp[*];rfl⟩
  have Yc:eC x.n=B':=h3;refine cN ?_;exact a8 0 ⟨Z,by rw[hT,Yc];simp[*];rfl⟩):A:=a
def tq (h:A:=by
  split at h
  ·rename_i t q e;obtain⟨rfl,d,hd,rfl⟩:=h;exact k1 t d q e hd
  rename_i off er e;obtain⟨q,rfl,rfl⟩:=h;exact k2 off er q e):A:=h
def iH (a:A:=by
  refine ck.loop ?_;exact a8 0 ⟨Z,Z⟩):A:=a
def IR (h:A:=by
  refine cN ?_;have EJ:y.e≠0:=λe=>by rw[e]at h1;cases h1
  refine cy ?_;refine a8 0 ⟨Z,Z,_,_,_,_,_,_,_,_,y,hy,EK,Fj.trans Yl,λh0=>?_,Z⟩;by_cases sW:z.e=0
  ·have⟨t,fu,hf,ht,NX⟩:=Ym h0 sW;obtain⟨fu,rfl⟩:∃k,fu=k+1:=⟨fu-1,om⟩;rw[NX,fh,kh];have h2:=Yn sW;cases Rc:ex z.p with
   |bad o e=>rw[Rc]at h2;exact h2
   |ok a q=>rw[Rc]at h2;exact Y' (by rw[h2.1];rfl) EJ
  rw[Yl sW];exact(ahn h0 sW).imp (λ_ h=>h.elim)):A:=h
def IS (a:A:=by
  by_cases h0:n*te.size=0
  ·have hm0:∀f:Nat->C',Array.map f (Array.range 0)= #[]:=λ_=>Array.eq_empty_of_size_eq_zero sm;simp only[h0,hm0]at hr1;simp only[Instr.buildSlice,Sem.run_bind,fv hT ht,hd,Result.andThen_ok,jp hT hte,h0,W' (by omega:¬0>2^24),c_,Sem.run_pure,hm0,hr1,jD]
  simp only[Instr.buildSlice,Sem.run_bind,fv hT ht,hd,Result.andThen_ok,jp hT hte,W' (by omega:¬n*te.size>2^24),W' h0,hz,Sem.run_pure,hr1,jD]):A:=a
def IT (a:A:=by
  obtain⟨tk,tm,tn,ta,tf,rfl⟩:=EI.dL;refine bZ Z ?_;refine cp _ (by rw[cx];exact hx) ?_;intro b3;refine a6 Z (a6 ⟨Z,Z,by simp,Nat.le_refl _,Ak (show (j' acc)<=4294967296 by omega)⟩ ?_);refine a7 Z (a7 (ej (j' acc)) ?_);refine⟨(j+1,acc++[_]),⟨nH,Aj⟩,ik,?_,Z,Z⟩;exact .pick 1 [0,2] ⟨Z,Yo 2 acc _,int_eq (cF om),tv⟩ Z Z Z Z Z dc ⟨Z,Z,TN acc _,fU _ _ _,tv⟩):A:=a
def B7 (a:A:=by
  rcases hb with⟨rfl,rfl⟩|⟨b2,o2,c2,rfl⟩<;>rcases hb' with⟨rfl,rfl⟩|⟨b2',o2',c2',rfl⟩;all_goals
   repeat first|refine a7 (jE _) ?_|refine a7 (ni _) ?_|refine a7 (mK hDD) ?_
   refine ck.loop ?_;exact afZ):A:=a
def IU (a:A:=by
  refine⟨max n1 (n'+1),x,fr',Yd,HB,ps',dy,dV,dM,pL,?_,k2.then e2 (Nat.le_refl _),e3,e4,e5,e6,e7,e8⟩;have c1:=iI (jc (C:=C) (cU:=cU) (Nat.le_max_left n1 (n'+1))) _ h1;have c2:(kY C cU (n'+1)).code (fj Yp fc) (.loop b) p7 (dN Yp ps1) st1=q' (gb dM x,fr',dN dM ps',dy):=e1;have c3:=(jc (C:=C) (cU:=cU) (Nat.le_max_right n1 (n'+1))).code _ _ _ _ _ _ c2;unfold code;rw[c1];simp only[gb];rw[(k2.Q6 hf).1]at c3;exact c3):A:=a
def IV (h:A:=by
  by_cases B5:l1.b=l.b
  ·rcases Yq _ _ _ h1 g1 B5 with e1|e1
   ·rcases Yq _ _ _ h2 g2 (he▸B5)with e2|e2
    ·exact Y' (e1.trans e2.symm) EJ
    subst e2;cases o1<;>trivial
   subst e1;cases o2<;>trivial
  have hb1:b≠r:=λe=>by subst e;rw[hl]at h1;cases h1;exact B5 rfl
  have N5:b'≠r:=λe=>by subst e;rw[hl]at h2;cases h2;exact B5 he
  rw[dH,W' hb1]at g1;rw[dH,W' N5]at g2;exact h.sep _ _ _ _ _ _ h1 h2 he g1 g2 EJ):A:=h
def IW (a:A:=by
  refine bZ Z ?_;refine cp (fe x) (by rw[cx];exact hx) ?_;intro b3;refine a6 Z (a6 ⟨Z,Z,by simp,Nat.le_refl _,Ak (show (j' acc)<=4294967296 by omega)⟩ ?_);refine a7 Z (a7 (ej (j' acc)) ?_);refine⟨(j+1,acc++[x.ty]),⟨nH,Aj⟩,ik,?_,Z,Z⟩;exact .pick 1 [0,2] ⟨Z,Yo 2 acc x.ty,int_eq (cF om),tv⟩ Z Z Z Z Z dc ⟨Z,Z,TN acc x.ty,fU _ _ _,tv⟩):A:=a
def lO (a:A:=by
  all_goals exact cD (ck.loop (a8 0 ⟨rfl,rfl⟩))):A:=a
def IX (a:A:=by
  refine cN ?_;refine Ve s (Fk om) (λr hr=>?_);obtain⟨d,hd,rfl⟩:=hr;obtain⟨di,dd,hi,hs,rfl⟩:=id hd;refine b7.closed (Rf s (Fk om)) Z (λr hr=>?_);obtain⟨d',hd',rfl⟩:=hr;obtain⟨di',dd',hi',hs',rfl⟩:=id hd';refine Rg (aen (Fk om)) hd hd' ?_;repeat refine b9 (Yr _) ?_
  refine cV.drop 0 ?_ ?_ ?_ ?_
  ·exact Z
  ·exact Z
  ·exact Z
  exact cV.now Z (by rw[Yr];rfl)):A:=a
def IY (a:A:=by
  rw[List.length_take,List.length_zip]at Ys;repeat first
   |refine bZ rfl ?_
   |refine Fl ?_
   |intro b
   |refine kf ?_
  refine⟨i+1,hi',ik,?_,Z,Z⟩;exact .pick 3 [0,1,2,4] ⟨Z,Z,Z,Z,jW (by rw[hkp,List.length_append];rfl),int_eq (cF om),tv⟩ Z Z Z Z Z dc ⟨Z,Z,Z,Z,Z,Z,vY (by rw[hkp,List.map_append];exact d_ (· ++_) (List.take_of_length_le sm)),fU _ 8 _,tv⟩):A:=a
def B8 (h:A:=by
  intro n;induction n with
  |zero=>intro e k h;cases e<;>exact⟨Nat.zero_le _,h⟩
  |succ n ih=>
   intro e k h;cases e with
   |nil=>exact h.elim
   |cons x r=>
    have⟨h1,h2⟩:=ih r _ h;exact⟨Nat.succ_le_succ h1,h2⟩):A:=h
def tr (a:A:=by
  rcases hl.dB with rfl|⟨b1,o1,c1,rfl⟩<;>rcases hk.dB with rfl|⟨b2,o2,c2,rfl⟩<;>exact fitAll):A:=a
def B9 (a:A:=by
  exact ck.arr (fx:=fvA (.d (.ps bL 0 8 (j' jQ) jQ)) (.d (.ps bK 0 8 (j' jX) jX)) 2) (gA:=tu R (cq q) (cq q1)) (.drop 3 ⟨Z,Z,Z,oN Z,Z,tv⟩ Z Z Z Z Z Z Z) (hC (bL,bK) trivial)):A:=a
def Ca (h:A:=by
  rename_i off er e;obtain⟨q,rfl,rfl⟩:=h;exact k2 off er q e):A:=h
def Cb (b:A:=by
  repeat first|refine a7 (ni _) ?_|refine a7 (jE _) ?_|refine a7 (oP _) ?_
  refine ck.loop ?_;refine Cc n ih args a a' om om ha ha' ?_;refine a8 0 ⟨Z,Z⟩):A:=b
def IZ (h:A:=by
  have⟨m,h1,h2⟩:=cR hk;have⟨x,Hu,h2⟩:=cR h2;have⟨v,aho,h2⟩:=cR h2;have⟨h3,h4⟩:=he _ _ h1;have⟨Yc,Vd⟩:=he _ _ Hu;have⟨ahp,ahq⟩:=he _ _ aho;have⟨pL,dy,k1,k2,k3,k4⟩:=Cd h Vd ahq h2;exact .val ⟨_,pL,Φ,ρ,dy,k1,⟨Fz.le_refl _,λ_ _=>Z,om⟩,k3,An,by simp only[kZ,h3,Yc,ahp];rw[k4];rfl⟩):A:=h
def I0 (h:A:=by
  have h':=h.move e2 e3;cases r with
  |ret v=>
   have⟨r,g1,g2⟩:=Fm (Φ0:=Φ) (ρ0:=ρ) (m0:=j' σ) e2 e5 h' e4;refine⟨n,r,?_,g2⟩;unfold pM;rw[k3];simp only[e1,fI];rw[(e2.ps h.ps).1]at g1;exact g1
  |fJ v=>
   refine⟨n,.fJ (erase dM v) fr (dN dM ps) dy,?_,.fJ v dV dM pL dy tm df ps fr e5 e2 h' e4 Z⟩;unfold pM;rw[k3];simp only[e1,fI,(e2.ps h.ps).1]):A:=h
def I1 (a:A:=by
  repeat first|refine Ae ?_|refine kf ?_
  refine kP x.n (hl _ lj) ?_;generalize eC x.n=b3;cases b3 with
  |true=>
   repeat first|refine Ae ?_|refine kf ?_
   refine kP x.tg (hl _ htg) ?_;generalize eC x.tg=b4;cases b4<;>(repeat first|refine Ae ?_|refine kf ?_)<;>exact a8 0 ⟨rfl,rfl⟩
  |false=>
   repeat first|refine Ae ?_|refine kf ?_
   exact a8 0 ⟨Z,Z⟩):A:=a
def I2 (h:A:=by
  have⟨h0,h1⟩:=c9 hfi;have hat:=eH hx h0;refine cT R x om ?_;refine aeo (i:=2) (j:=3) (n:=0) (xs:=[]) (ks:=[]) (x:=x.next) dc Z Z Z Z (λbL bK=>?_);refine Ao (acc:=[]) (xs:=[]) (ks:=[]) ⟨.nil,.nil,by simp[Rh],by simp⟩ (Nat.zero_le _) (w.step hp h1) hx.next (λh=>Y' h0 h) λ_=>?_
  rw[ec,X' h1,hat];exact .ok Z):A:=h
def I3 (a:A:=by
  have hH2:oF ⟨mp,oz,nK⟩=jC mp [] oz:=by rw[hH,W' om]
  refine cD ?_;refine nc mp om ?_;refine a7 (by rw[hp'];rfl) ?_;refine cN ?_;refine afW (λn hn'=>?_);have hb3:decide (4096<Int.ofNat n)=B':=Z' (by simp only[Int.ofNat_eq_natCast];omega);refine cN ?_;refine ck.loop ?_;exact a8 0 ⟨Z,by rw[hH2,hmi];rfl⟩):A:=a
def I4 (a:A:=by
  have hq2:q1+1<j' R.ts:=w.step hy Ap;rw[W' (by rw[xH];decide),cw,X' Ap,cw]at vZ;dsimp only at vZ
  skip
  exact⟨(q1+1,_,jQ,jX,bL,bK),⟨by show x.p<q1+1;omega,hq2,y3,by show 0<j' jQ;omega,by show (j' jQ)<=q1+1;omega,f,by show (j' R.ts)-(q1+1)<=f;omega,vZ⟩,by show (j' R.ts)-(q1+1)<j' R.ts-q;omega,.eD 2,Z,Z⟩):A:=a
def I5 (h:A:=by
  rw[List.length_zip]at Ys;refine TO y3 om (cW w hy) EK.expect (λh=>Y' Z h) (λ_=>?_);show eF (ec (eA ty ex R) R [41] [] p) _ _;rw[vZ];cases xH:cG (R.tok q1) [41]with
  |true=>rw[X' rfl,fD xH];exact .ok rfl
  |false=>rw[W' (λh=>by cases h),gd xH,cw,W' (by rw[Ap];decide)];exact .bad dc):A:=h
def xI (a:A:=by
  refine Vf n ih om om ha ha' (λb hb=>?_);exact a8 0 ⟨Z,b,λe=>hb (by cases e;rfl),Z⟩):A:=a
def lP (a:A:=by
  refine cD ?_;exact a8 0 ⟨Z,Z⟩):A:=a
def Ce (a:A:=by
  exact ck.arr (fx:=aep fin bL bK jQ jX) (gA:=tu R (cq q) (cq q1)) (.drop 3 ⟨Z,Z,Z,Z,oN Z,Z,tv⟩ Z Z Z Z Z Z Z) (hC (bL,bK) trivial)):A:=a
def I6 (a:A:=by
  refine qE Z _ labels hl hlen (λj hj d hd K hk=>?_) hK;have hvj:=hw.var _ (List.getElem_mem hj);have htj:=hw.ty _ (List.getElem_mem hj);generalize labels[j]=l at hvj htj hd;have⟨ln,lv,lt,lo⟩:=l;simp at hvj htj;obtain⟨rfl,rfl⟩:=htj;subst hvj;have hd:fF cY d:=hd;rcases zj hd with rfl|⟨b,o,c,rfl⟩;all_goals exact aeq):A:=a
def I7 (h:A:=by
  exact⟨(y,(.int .i64 (Int.ofNat 9),.str [],.str [],.str [],.int .i64 (Int.ofNat 0),.cu,dl),.inr [[c0,c1,c2,c3,c4,c5,c6,d]]),⟨hy,EK.low,(λh=>Y' h0 h),e1,e2⟩,e3,.pick 4 [0,1,2,3,5] ⟨Z,Z,Z,Z,tv⟩ Z Z Z Z Z dc ⟨Z,Z,Z,Z,Z,Z,Z,Z,vY Z,fU _ 8 _,tv⟩,Z,Z⟩):A:=h
def kQ (a:A:=by
  exact a8 0 ⟨Z,by rw[hR];rfl⟩):A:=a
def Cf (a:A:=by
  exact ck.arr (fx:=aer bL bK jQ jX) (gA:=tu R (cq q) (cq q1)) (.drop 3 ⟨Z,Z,Z,oN Z,Z,tv⟩ Z Z Z Z Z Z Z) (hC (bL,bK) trivial)):A:=a
def xK (h:A:=by
  cases h with
  |nil=>exact⟨[],.nil,.inl ⟨rfl,rfl⟩⟩
  |ps h=>exact⟨_,h,.inr ⟨_,_,_,rfl⟩⟩):A:=h
def xL (h:A:=by
  induction l generalizing els with
  |nil=>cases h;rfl
  |cons a l ih=>cases h with|cons h1 h2=>simp[ih h2]):A:=h
def tw (h:A:=by
  cases h with
  |nil=>exact .inl rfl
  |ps h=>cases h;exact .inr ⟨_,_,_,rfl⟩):A:=h
def Cg (h:A:=by
  revert h1;generalize x.ps=xp;intro h1;cases h1 with
  |nil=>exact⟨0,rfl,.inl ⟨rfl,rfl⟩⟩
  |ps h=>exact⟨_,rfl,.inr ⟨_,_,_,_,rfl,h,h.len⟩⟩):A:=h
def I8 (b:A:=by
  refine gU ?_;refine cH R w _ [58] Vg ?_;rw[gB (Nat.succ_ne_zero _)];refine ht.err _ (Nat.succ_ne_zero _) Vg _ _ (λk m n a f=>?_);refine cy ?_;refine cV.drop 0 ?_ ?_ ?_ ?_
  ·exact Z
  ·exact Z
  ·exact Z
  refine cV.now Z ⟨Z,Z,?_⟩;rw[he];exact⟨dc,_,_,Vg,Z⟩):A:=b
def lQ (a:A:=by
  exact⟨i+1,hi',ik,.eS,Z,Z⟩):A:=a
def I9 (h:A:=by
  refine⟨_,_,_,_,_,_,_,_,_,cW w hy,EK.expect,λh=>Y' h0 h,λ_=>?_,Z⟩;rw[NX];cases xH:cG (R.tok q) [93]with
  |true=>rw[fD xH];exact .ok (.mk (.ps (.cons htD .nil) sm) .nil (.ps (hK.snoc hd)))
  |false=>rw[gd xH,cw,Ap];exact .bad dc):A:=h
def xM (a:A:=by
  refine cy ?_;refine a8 0 ⟨Z,Z,by rw[<-he];exact⟨EJ,_,_,_,_,_,q,hq,rfl⟩⟩):A:=a
def xN (h:A:=by
  repeat' split at h
  all_goals first|cases h;done|(unfold val at h;cases h;exact .inl ⟨_,_,rfl⟩)):A:=h
def Ch (a:A:=by
  refine a8 0 ⟨Z,iQ λe=>?_⟩;have:j' els≠j' zk:=λe=>by rw[e]at hc;simp at hc
  rw[e1,e2,e]at this;exact this Z):A:=a
def Ja (h:A:=by
  split at h
  ·rename_i l q e;obtain⟨e2,d,hd,rfl⟩:=h;have:cs'=zl R q:=by injection e2 with e3;injection e3
   subst this;exact h1 l d q e hd
  rename_i off er e;obtain⟨q,e2,rfl⟩:=h;have:cs'=zl R q:=by injection e2 with e3;injection e3
  subst this;exact h2 off er q e):A:=h
def Jb (a:A:=by
  have N5:decide (64<Int.ofNat (j' els))=A':=by rw[N4];exact a_ (by simp only[Int.ofNat_eq_natCast];omega)
  refine cD ?_;refine nc mp om ?_;refine a7 (by rw[hp'];rfl) ?_;refine cN ?_;exact a8 0 ⟨Z,by rw[hH,X' (.inr h64)];rfl⟩):A:=a
theorem xJ (h:A:=by
  rw[List.map_append,List.nodup_append];refine⟨h.nd,by simp,?_⟩
  grind [List.mem_singleton]):A:=h
def tx (a:A:=by
  rw[Op.equalIn,Sem.run_bind,run_underlying hu,Result.andThen_ok];rfl):A:=a
def Jc (b:A:=by
  rename_i i v ob j o bl a;rw[<-hs.erase hv];refine .obj ho hm (hs.ok hv) (hk.mono hs) (by rw[r9 hk hs,hmo,hs.erase hv]) ?_;cases j with
  |some j=>exact⟨Nat.lt_of_lt_of_le hj.1 hs.len,by rw[hs.xO _ hj.1];exact hj.2.1,hj.2.2⟩
  |none=>exact hs.le.Ye _ _ hj):A:=b
def Ci (a:A:=by
  unfold IntKind.wrap;simp only[IntKind.signed,IntKind.bits];first
   |(show(if _ then _ else _)=_;split<;>omega)
   |(simp;omega)):A:=a
def xP (h:A:=by
  cases hb:Φ st.n with
  |none=>rfl
  |some o=>exact Y' (h.flt hb) (Nat.lt_irrefl _)):A:=h
def Jd (h:A:=by
  cases ha' with
  |nil=>
   refine ck.loop ?_;exact a8 0 ⟨Z,TP⟩
  |ps h EJ=>
   rename_i els;have e1:=h.len;rcases els with _|⟨x0,xr⟩
   ·exact Y' Z EJ
   exact a8 0 ⟨Z,iQ λe=>by rw[<-e]at e1;simp at e1⟩):A:=h
def xQ (a:A:=by
  obtain⟨k,m,n,xx,num,ty,lb,kd,rfl⟩:=hd.eight;refine a8 1 (eL e hd)):A:=a
def nj (a:A:=by
  simp only[Int.ofNat_eq_natCast];omega):A:=a
def Je (h:A:=by
  split at h
  ·rename_i z' hz';rw[hzm]at hz';cases hz';obtain⟨rfl,rfl⟩:=dS h;refine⟨.tuple #[z,.bool B'],?_,.tuple (.cons (TQ (hT.Dx _ _ ht) hzm ρ) (.cons (.bool _) .nil)),Z⟩;unfold Instr.typeAssert
   simp_all
  cases h):A:=h
def oQ (a:A:=by
  exact a8 0 ⟨Z,Z,Cj hp⟩):A:=a
def Jf (a:A:=by
  refine a7 h2 ?_;apply aZ<;>intro h3
  ·exact b9 h3 (b9 h3 (fK (by simp only[isWord,h3,Bool.true_or,Bool.or_true]) hk))
  exact a7 h3 (a7 h3 (fK (by simp only[isWord,h1,h2,h3,Bool.false_or]) hk))):A:=a
def Jg (a:A:=by
  refine ck.arr (fx:=aes sep fin lM (j' xs) (p9 (xs.map FE.n) (R.tok q).text)) (gA:=rfS R q xs++[.box (rfQ R (q+1)),.box (rfF (R.tok q).text B')]) .eS (hC ((q+1),B') ⟨by show p<=(q+1);omega,by show q<(q+1);omega,Vg,he⟩)):A:=a
def Ck (a:A:=by
  unfold im;rcases hl.dB with rfl|⟨b1,o1,c1,rfl⟩<;>obtain⟨b2,o2,c2,d1,rfl⟩:=hk.one<;>exact fitAll):A:=a
def oR (a:A:=by
  exact a8 0 ⟨Z,by rw[hC];rfl⟩):A:=a
def Jh (a:A:=by
  refine ck.loop ?_;refine a8 0 ⟨Z,1+L,by show 1+L<=1+j' oz+_;omega,?_⟩;refine d_ (λx=>dt.ret (V.d (D.int .i64 x))) ?_;first
   |exact hw1 0 hL0.symm
   |exact hw1 _ (by rw[List.length_map];exact hL.symm)):A:=a
def Ji (a:A:=by
  have⟨al2,σ3,g1,g2,g3,g4,g5⟩:=vu q1 q3.real q3.df;rw[af0]at g1 g5;exact⟨_,.ret (.d (.bool B')),_,Φ2,ρ2,σ3,red _ (by simp only[gb,g1,g2];rfl),by rw[g4];exact Fj,g5,.d (.bool _),g3⟩):A:=a
def xR (a:A:=by
  rw[List.take_of_length_le nH]at sX;exact kF 0 (j' acc) Z Z sX):A:=a
def Jj (a:A:=by
  rw[ht]at hr;obtain⟨k,t,rfl⟩:=hr;refine jF.intro ?_;have he:=Fo ht;apply aZ<;>intro h9
  ·refine db ?_;refine a8 0 ⟨Z,Z,?_⟩;rw[TR h' hl ht hp];rfl
  exact Y' (jq h9) he):A:=a
def Jk (a:A:=by
  cases hq:hD ops D zm with
  |nil=>rfl
  |cons t l=>
   have:t∈hD ops D zm:=by rw[hq];simp
   rw[pN]at this;have⟨j,hj,hd,_⟩:=this;rw[Jl j (hp.lt j (by rw[v7];simp[hj]))]at hd;cases hd):A:=a
def Jm (a:A:=by
  exact ck.arr (fx:=HA) (gA:=[.box (qm k m n x num ty lb kd),.box [cj b0,cj b1,cj b2,cj b3,cj b4,cj b5,cj b6,.d (.int .i64 j),cj b8]]) (.same ⟨Z,Z,tv⟩ (by rw[h2])) (hC () trivial)):A:=a
def qY (a:A:=by
  exact a8 0 ⟨Z,TP⟩):A:=a
def Jn (h:A:=by
  refine cA ?_;apply aZ<;>intro h
  ·exact b9 h (b9 h (fK (by simp only[gV,h,Bool.true_and]) hk))
  exact a7 h (a7 h (fK (by simp only[gV,h,Bool.false_and]) hk))):A:=h
def Jo (h:A:=by
  rename_i hk;obtain⟨x,hx,rfl⟩:=fR h;have⟨a,b,c,d⟩:=ih (p+1) x q om (w.step h2 hk) hx;exact⟨.one (.one (by simp[Ri])) a,by rw[op1,iR];simp only[cQ,dn];omega,om,d⟩):A:=h
def oS (a:A:=by
  exact Yt acc (Yu hp hl) Z):A:=a
def Jp (h:A:=by
  refine cA ?_;apply aZ<;>intro h
  ·exact b9 h (b9 h (fK (by simp only[isDigit,h,Bool.true_and]) hk))
  exact a7 h (a7 h (fK (by simp only[isDigit,h,Bool.false_and]) hk))):A:=h
def Jq (h:A:=by
  refine cA ?_;apply aZ<;>intro h
  ·exact b9 h (b9 h (fK (by simp only[jR,h,Bool.true_and]) hk))
  exact a7 h (a7 h (fK (by simp only[jR,h,Bool.false_and]) hk))):A:=h
def Cl (a:A:=by
  refine a8 0 ⟨Z,?_⟩;exact d_ dt.ret (d_ V.d (d_ (D.int .i64) (cF om)))):A:=a
def Jr (a:A:=by
  refine ck.arr (.same (fx:=[(0,.bp 1 0),(3,.bp 3 0),(4,.bp N 0)]) ⟨?_,?_,?_,tv⟩ ?_) (hC (q+1,B') ⟨Nat.lt_succ_self _,Vg,he⟩)<;>first|exact Z|(rw[hN1];exact Z)|(rw[hS];exact Z)):A:=a
def Js (h:A:=by
  cases xH:cG (R.tok q1) [125]with
  |true=>rw[X' rfl,fD xH];exact .ok rfl
  |false=>rw[W' (λh=>by cases h),gd xH,cw,W' (by rw[Ap];decide)];exact .bad dc):A:=h
def Jt (b:A:=by
  refine cH R w x [58] hp ?_;rw[gB hx];refine ht.err x hx hp _ _ (λk m n a f=>?_);refine aZ (λh9=>?_) (λh9=>Y' (jq h9) hx);refine cy ?_;refine Fp ?_ ?_<;>exact Z):A:=b
def Ju (h:A:=by
  cases xH:cG (R.tok q1) fin with
  |true=>rw[X' rfl,fD xH];exact .ok rfl
  |false=>rw[W' (λh=>by cases h),gd xH,cw,W' (by rw[Ap];decide)];exact .bad dc):A:=h
def qZ (a:A:=by
  refine Fp ?_ ?_<;>exact Z):A:=a
def xS (h:A:=by
  by_cases h:x.e=0
  ·exact h
  rw[Fj h]at sW;exact Y' sW h):A:=h
def Jv (a:A:=by
  have⟨c,h4,h5,h6⟩:=Rj ρ _ ps z _ (sa Φ m h3).1 hp hk;rw[kn ρ h3]at h6;refine⟨_,h4,.agg h5,?_⟩;unfold zn;simp only[hti,hd,h1,h2,h6];simp[val,erase,List.toArray]):A:=a
def xT (a:A:=by
  rw[<-gs,<-N6,<-N6,Nat.zero_add,Nat.zero_add];rfl):A:=a
def nk (a:A:=by
  exact cI h0 Z Z hk):A:=a
def Jw (a:A:=by
  split at h2
  ·have⟨v,h5,h6,h7⟩:=Vh (Φ:=Φ) (m:=j' σ) (ρ:=ρ) _ _ _ _ _ h2;exact⟨v,h5,h6,by simp only[ll,cE,erase,cK,h7];rfl⟩
  exact h2.elim):A:=a
def Jx (a:A:=by
  refine cy ?_;refine lk Z _ _ (uz.ps hf) om (λx j hj _ e2=>λhk=>LL x (by rw[<-e2,ho _ (List.getElem_mem hj)];exact hk)) ?_;exact a8 0 ⟨Z,Z⟩):A:=a
def Jy (a:A:=by
  repeat' (first|exact tv|exact rfl|exact Nat.le_of_ble_eq_true rfl|refine bZ rfl ?_|refine cp zo (N7 e0 r) ?_|refine a6 (Yv r) ?_|refine And.intro ?_ ?_)):A:=a
def Jz (a:A:=by
  repeat' (first|exact tv|exact rfl|exact Nat.le_of_ble_eq_true rfl|refine bZ rfl ?_|refine cp Fq (N8 x0 r) ?_|refine a6 (Yw r) ?_|refine And.intro ?_ ?_)):A:=a
def JA (a:A:=by
  repeat' (first|exact tv|exact rfl|exact Nat.le_of_ble_eq_true rfl|refine bZ rfl ?_|refine cp jz (N9 x0 xr) ?_|refine a6 (Yx xr) ?_|refine And.intro ?_ ?_)):A:=a
def JB (h:A:=by
  have Ed:=(mL hgx).resolve_left (by intro e;cases e);have hxb:b≠x:=by intro e';subst e';rw[hg]at Ed;cases Ed
  exact(h.sep _ _ _ _ _ _ hl HC B5.symm hg Ed hxb).elim):A:=h
def JC (a:A:=by
  rw[ho,W' dc,List.append_nil]at hkp;exact⟨i+1,hi',ik,.same ⟨Z,Z,Z,Z,jW (by rw[hkp]),int_eq (cF om),tv⟩ (by rw[hkp]),Z,Z⟩):A:=a
def Cm (h:A:=by
  exact a8 0 ⟨Z,Z,_,_,_,_,_,_,_,_,y,hy,EK,Fj,λh=>Y' h h0,Z⟩):A:=h
def JD (c:A:=by
  cases a<;>first|(exfalso;exact h3 _ _ rfl)|(exfalso;exact h4 _ _ _ rfl)|(cases b<;>first|rfl|(exfalso;exact h1 _ _ _ _ ⟨rfl,rfl⟩)|(exfalso;exact h2 _ _ ⟨rfl,rfl⟩))):A:=c
def JE (h:A:=by
  have h:x.is R [91]=B':=by rwa[Bool.not_eq_true']at h
  refine cy ?_;refine a8 0 ⟨Z,Z,_,x,.aet hp hx [] (λh0=>by rw[gi,cJ h h0];rfl) .nil,Z⟩):A:=h
def q0 (h:A:=by
  cases h;exact⟨Nat.le_refl _,hp⟩):A:=h
def JF (a:A:=by
  repeat refine a7 h2 ?_
  refine fK ?_ hk;have LJ:¬j' (c::r)<=32:=Nat.not_le_of_lt (Fs h2);simp only[c8,Z' LJ,Bool.and_false,Bool.false_and]):A:=a
def JG (a:A:=by
  repeat refine a7 h2 ?_
  refine fK ?_ hk;have LJ:¬j' (c::r)<=32:=Nat.not_le_of_lt (Fs h2);simp only[eC,Z' LJ,Bool.and_false,Bool.false_and]):A:=a
def JH (a:A:=by
  unfold im;rcases hl.dB with rfl|⟨b1,o1,c1,rfl⟩<;>obtain⟨b2,o2,c2,d1,d2,d3,rfl⟩:=hk.three<;>obtain⟨b3,o3,c3,d0,rfl⟩:=ht.pE<;>exact fitAll):A:=a
def JI (a:A:=by
  all_goals
   refine lk Z _ [] hf dc (λ_ _ hj=>Y' hj (Nat.not_lt_zero _)) ?_;refine pF _ [] hf dc .nil ?_;exact a8 0 ⟨Z,Z⟩):A:=a
def Cn (h:A:=by
  cases h with
  |nil=>exact .inl ⟨rfl,rfl⟩
  |ps h=>exact .inr ⟨_,_,_,_,rfl,h⟩):A:=h
def tz (a:A:=by
  refine cN ?_;exact a8 0 ⟨Z,Z⟩):A:=a
def JJ (b:A:=by
  have h2:=Yn sW;cases Rc:ex z.p with
  |bad o e=>rw[Rc]at h2;exact Y' (h2.2.2.symm.trans hye) h2.1
  |ok a q=>rw[Rc]at h2;exact⟨a,q,rfl,h2.1,h2.2⟩):A:=b
def JK (h:A:=by
  obtain⟨u1,s1,rfl⟩:=JL;simp only[execOp,kg];obtain⟨w',e1,e2,rfl,_⟩:=HD hT hw (he _ _ ha) (he _ _ hb) (he _ _ hc) h;exact Oa e1 e2):A:=h
def JM (h:A:=by
  cases j with
  |zero=>
   obtain rfl:i=i':=by simpa using h
   exact⟨o,Z,by rw[<-cx,hσ,gq _ _ hc],nM _ _ hc⟩
  |succ j=>simp at h):A:=h
def JN (a:A:=by
  refine a8 0 ⟨Z,n,?_,Z⟩;have nH:j' nK<=j:=N4▸dK hc;rw[List.take_of_length_le nH]at hnj;show n<=1+j' oz+jg nK;omega):A:=a
theorem xU (a:A:=by
  all_goals grind [List.mem_singleton,List.mem_append.1]):A:=a
def JO (h:A:=by
  refine step_lone_go ?_;rw[oT ho hw (.inl hd)];have hr:(eZ b tm df (.inRegion ops (i::rest)::k)).roundOf=u':=hd;simp[stepG.apply,h,hr,hn]):A:=h
def JP {P:Prop} (a:P:=by
  rcases nN (P:=P) Ad e1 with⟨rfl,rfl,rfl⟩|⟨yl,rfl,hls,hlr⟩
  ·rw[ct _ (Sem.run_pure (P:=P) (w:=w) _)];rfl
  simp_all):P:=a
def JQ (a:A:=by
  refine a7 (by rw[Yy hlt];rfl) ?_;refine a7 (by rw[Yy hlt];rfl) ?_;exact⟨i+1,by show 1<=i+1;omega,ik,.eS,Z,Z⟩):A:=a
def JR (h:A:=by
  rename_i kg;rw[kg]at h3 hm;cases h1;cases h3;first
   |exact h.Yz hm.1 hm.2
   |exact .bp (by rw[hlen];omega)
   |(simp only[erase,LM];rfl)):A:=h
def JS (h:A:=by
  split at h
  ·rename_i u hu;unfold val at h;cases h;simp only[execOp,kg];exact⟨ρ,_,w,.inl Z,Ren.le_refl _,hw,he _ _ hu⟩
  cases h):A:=h
def JT (b:A:=by
  repeat refine a7 h1 ?_
  refine fK ?_ hk;have Hu:s=[]:=List.eq_nil_of_length_eq_zero (by have:=Fs (a:=1) h1;omega);subst Hu;rfl):A:=b
def Co (h:A:=by
  repeat' split at h
  all_goals first|cases h;done|exact key h (.inl rfl)):A:=h
def JU (h:A:=by
  split at h
  ·obtain⟨rfl,d,h2,rfl⟩:=h;exact⟨_,Z,Z,Z,h'⟩
  obtain⟨q,rfl,rfl⟩:=h;exact⟨_,Z,Z,Z,h'⟩):A:=h
def JV (h:A:=by
  have⟨dM,w',Yd,HB,cs',h4,h5,h6,h7,h8⟩:=h;exact⟨dM,w',Yd,HB,cs',hle.trans h4,h5,h6,Ya.trans h7,.of_steps Fj h8⟩):A:=h
def JW (a:A:=by
  refine fK ?_ hk;have h4:(c::r).all isWord=A':=h4;simp only[c8,a_ LJ,h3,h4,List.head?_cons,Option.any_some];simp):A:=a
def Cp (a:A:=by
  exact EL (by simp only[JX,eV,cw,h4,c_,e4,PR.map])):A:=a
def JY (a:A:=by
  rw[List.take_add_one,hgi];simp only[List.all_append,hp,Option.toList,List.all_cons,List.all_nil,Bool.and_true,Bool.true_and];simpa using h2):A:=a
def JZ (h:A:=by
  subst h;exact cV.drop 1 Z (by show(gP 1 (ee R q)&&ml 1 tl 0)=A';rw[ml];rfl) Z (cV.now Z ⟨_,Z,Z,Z,q,Z,Z⟩)):A:=h
theorem J0 (b:A:=by
  show(match decide (s=a)with
   |true=>q' (q' (i,cj A'))
   |false=>je .string (cv s) (fV (k+1) l) (i+1))=_
  grind):A:=b
def J1 (h:A:=by
  cases h with|ps h=>cases h with|cons _ h=>cases h with|cons _ h=>cases h with|cons _ h=>cases h;exact⟨_,_,_,_,_,_,rfl⟩):A:=h
def Cq (a:A:=by
  exact zp hi.frame.tm (by rw[<-Aq Rk];exact hwa)):A:=a
def J2 (a:A:=by
  rw[abH λi hi=>Nat.lt_of_lt_of_le (hcs i hi) h3,show Nat.blt 0 (j' gA)=A' by rw[Nat.blt_eq];exact Nat.lt_of_lt_of_le h0 h3];rfl):A:=a
def J3 (a:A:=by
  rcases hl.inv with⟨h1,h2⟩|⟨b,o,c,els,h1,h2⟩
  ·exact .inl ⟨h2,by rw[h1];rfl⟩
  exact .inr ⟨b,o,c,els,h1,h2.len⟩):A:=a
def tA (b:A:=by
  exact⟨a,om,om,d⟩):A:=b
def J4 (a:A:=by
  refine ck.loop ?_;refine cV.drop 7 ?_ ?_ ?_ ?_
  ·exact Z
  ·exact pG Z Yf N5 hL
  ·exact Z
  exact cV.now Z ⟨Z,Z⟩):A:=a
def J5 (h:A:=by
  cases h with
  |cons h1 h2=>
   cases i with
   |zero=>exact .cons hd h2
   |succ i=>exact .cons h1 (ih h2 (i:=i) (by simpa using hi) hd)):A:=h
def J6 (h:A:=by
  rw[hdr]at h;have hE:isWord s[hh+eE isDigit (s.drop hh)]=B':=hE;simp only[List.head?_cons,Option.any_some,hE]at h;cases h):A:=h
def xV (a:A:=by
  refine cy ?_;exact a8 0 ⟨Z,Z⟩):A:=a
def Cr (a:A:=by
  exact a8 0 ⟨Z,iQ λe=>by rw[e]at e1;simp at e1⟩):A:=a
def J7 (h:A:=by
  induction l generalizing els with
  |nil=>cases h;exact .cons hp .nil
  |cons a l ih=>cases h with|cons h1 h2=>exact .cons h1 (ih h2)):A:=h
def J8 (a:A:=by
  have LJ:bb=B':=uA h2;refine a8 0 ⟨Z,iQ λe=>?_⟩;have:=hb (by subst e;rfl);rw[LJ]at this;cases this):A:=a
def J9 (a:A:=by
  refine⟨n,x,fr',Yd,HB,ps',dy,dV,dM,pL,e1,?_,e3,e4,e5,e6,e7,e8⟩;exact(Vi.weaken hf.2).then e2 (Nat.le_refl _)):A:=a
def Ka (h:A:=by
  refine⟨(h.obj i _ hi Z).2,λj o hj hl e=>?_⟩;have⟨h1,h2⟩:=tB hi hj hl;exact h1 (h.inj j i o _ h2 hi hl Z e)):A:=h
def Kb (a:A:=by
  cases xH:cG (R.tok q1) [125]with
  |false=>rfl
  |true=>exact Y' ((jG xH).symm.trans (jG Ap)) dc):A:=a
def Kc (h:A:=by
  induction l generalizing els with
  |nil=>cases h;rfl
  |cons a l ih=>cases h with|cons _ h2=>simp only[List.length_cons,ih h2]):A:=h
def Ke (a:A:=by
  cases xH:cG (R.tok q1) [41]with
  |false=>rfl
  |true=>exact Y' ((jG xH).symm.trans (jG Ap)) dc):A:=a
def Kf (a:A:=by
  cases xH:cG (R.tok q) [93]with
  |false=>rfl
  |true=>exact Y' ((jG xH).symm.trans (jG Ap)) dc):A:=a
def Kg (a:A:=by
  have⟨r,h3,h4⟩:=Vj (ρ:=ρ) hk;exact⟨_,h3,.d (.bool _),shape _ (by simp only[h4];rfl) (by rw[h4];simp)⟩):A:=a
def Kh (h:A:=by
  rename_i hn;have⟨a,e,_⟩:=dY h;have⟨c,d⟩:=ih (p+1) a q om (w.step h2 hn) e;exact⟨om,d⟩):A:=h
def Cs (h:A:=by
  cases h;exact⟨om,w.go p _ (cn h2) om⟩):A:=h
def Ki (a:A:=by
  unfold im;rcases hl.dB with rfl|⟨b1,o1,c1,rfl⟩<;>obtain⟨b2,o2,c2,d1,d2,rfl⟩:=hk.two<;>exact fitAll):A:=a
def Kj (h:A:=by
  induction l generalizing els with
  |nil=>cases h;exact h'
  |cons a l ih=>cases h with|cons h1 h2=>exact .cons h1 (ih h2)):A:=h
def xW (a:A:=by
  refine⟨i+1,hi',ik,.eS,Z,Z⟩):A:=a
def Kk (h:A:=by
  rename_i kg;rw[kg]at h3 hm;cases h1;cases h3;exact⟨h.Yz hm.1 hm.2,.bp om,by simp only[erase,LM];rfl⟩):A:=h
def Ct (a:A:=by
  split
  ·exact abI.word.fail _ _ dc
  exact abI.word):A:=a
def Kl (a:A:=by
  cases xH:cG (R.tok q1) fin with
  |false=>rfl
  |true=>exact Y' ((jG xH).symm.trans (jG Ap)) ahr):A:=a
def Km (h:A:=by
  have h:j' s<=i:=dK hc;repeat refine a7 hc ?_
  refine nO ?_ hk;rw[Cu hi hp (λh'=>om)]):A:=h
def xX (a:A:=by
  exact a8 0 ⟨Z,by rw[hM];rfl⟩):A:=a
def Cv (a:A:=by
  refine Vk (hex▸h5) ?_;exact a8 0 ⟨Z,Z⟩):A:=a
def Kn (h:A:=by
  cases b<;>first|(simp[qa]at h;done)|skip
  rename_i x';obtain⟨x'⟩:=x';simp only[qa]at h;rw[Ar x x' h]):A:=h
def Ko (a:A:=by
  exact⟨ρ2,w2,tm2,HB,cs',h4.trans af1,hw2,hf2,h7,(Steps.head TS (h8.trans hs2)).trans (.one sY)⟩):A:=a
def Kp (a:A:=by
  refine b9 h3 ?_;refine fK ?_ hk;simp only[eC,a_ LJ,h3,List.head?_cons,Option.any_some];simp):A:=a
def Kq (a:A:=by
  show eO ty R (j' R.ts) [] (p+1)=eO ty R f (l++[t]) (q1+1);rw[he,eO,e1];simp only[h2,c_]):A:=a
def Kr (h:A:=by
  cases h with
  |cons h1 h2=>
   cases t with
   |zero=>exact .cons hd (.cons h1 h2)
   |succ t=>exact .cons h1 (ih h2 t)):A:=h
def Ks (a:A:=by
  refine cy ?_;refine a8 0 ⟨Z,Z,by rw[<-he];exact⟨dc,_,_,_,_,_,p+1,Q7,rfl⟩⟩):A:=a
def Kt (h:A:=by
  rw[W' e2]at hk;rw[hs.xO k (hold k ok hk),hs.xO j (hold j oj hj)]at e;exact h.inj j k oj ok hj hk hlj hlk e):A:=h
def Ku (h:A:=by
  cases h with|ps h=>cases h with|cons _ h=>cases h with|cons _ h=>cases h;exact⟨_,_,_,_,_,rfl⟩):A:=h
def Kv (h:A:=by
  refine⟨i+1,⟨om,?_⟩,ik,.eS,Z,Z⟩;rcases hnx with h|h
  ·exact h
  rw[hb]at h;cases h):A:=h
def Cw (a:A:=by
  rw[List.drop_zero,List.take_of_length_le sm];simp):A:=a
def Cx (a:A:=by
  simp only[As,oU,Nat.beq_refl,Bool.and_self]):A:=a
def Kw (a:A:=by
  cases hi with
  |nil=>exact⟨0,rfl,.inl ⟨rfl,rfl⟩⟩
  |ps=>exact⟨_,rfl,.inr ⟨_,_,_,rfl⟩⟩):A:=a
def Kx (a:A:=by
  repeat refine a7 h4 ?_
  refine fK ?_ hk;have h4:(c::r).all isWord=B':=h4;simp[c8,h4]):A:=a
def Ky (h:A:=by
  cases b<;>first|(simp[qa]at h;done)|skip
  rename_i q;cases q<;>first|rfl|(simp[qa]at h;done)):A:=h
def Kz (a:A:=by
  rw[e3]at he;refine cy ?_;refine a8 0 ⟨Z,Z,by rw[<-he];exact⟨_,.mk hd .nil,rfl⟩⟩):A:=a
def KA (h:A:=by
  rw[W' (λh'=>h' h),lm h,RS.dq,gf,a_ h,X' rfl];exact .ok Z):A:=h
def KB (b:A:=by
  exact d_ (λx=>q' (cX.row 5 x)) (YA e0 r [.int .i64 (Int.ofNat k),.str m,.str n,a,fl])):A:=b
def KC (a:A:=by
  rw[List.take_add_one,List.getElem?_eq_getElem nH,List.map_append,<-List.append_assoc];exact hA.snoc hbb):A:=a
def Cy (a:A:=by
  rename_i e;cases hx;rw[e];exact⟨rfl,tv⟩):A:=a
def Cz (a:A:=by
  rw[gq π _ (ko _),List.map_append];rfl):A:=a
def KD (a:A:=by
  refine iP (fe ⟨3,_,Z⟩ ?_) Z;rw[Am,mb,X' (.inr (.inr (by rw[hdr];exact hE)))]):A:=a
def KE (h:A:=by
  cases m with
  |zero=>rfl
  |succ m=>
   cases k' with
   |zero=>omega
   |succ k'=>simp[gj]at h):A:=h
def CA (a:A:=by
  refine ck.loop ?_;refine a8 0 ⟨Z,Z⟩):A:=a
def KF (h:A:=by
  refine fK ?_ hk
  symm
  rw[List.all_eq_false];exact⟨s[i],List.getElem_mem h,by simpa using h2⟩):A:=h
def KG (a:A:=by
  repeat refine a7 h3 ?_
  refine fK ?_ hk;have h3:gV c=B':=h3;simp[eC,h3]):A:=a
def KH (a:A:=by
  simp only[List.flatten_append,List.flatten_cons,List.flatten_nil,List.append_nil,List.append_assoc]):A:=a
def KI (a:A:=by
  repeat refine a7 h1 ?_
  refine fK ?_ hk;have Hu:s=[]:=by simpa using h1
  subst Hu;rfl):A:=a
def KJ (a:A:=by
  exact b9 h2 (b9 h2 (fK (by simp only[isWord,h2,Bool.true_or,Bool.or_true]) hk))):A:=a
def KK (a:A:=by
  repeat refine a7 h3 ?_
  refine fK ?_ hk;have h3:jR c=B':=h3;simp[c8,h3]):A:=a
def KL (h:A:=by
  rw[dH]at hb;split at hb
  ·rename_i e;subst e;exact h.wf.lt _ _ hg
  exact h.wf.lt _ _ hb):A:=h
def KM (a:A:=by
  rcases Nat.lt_or_ge j i with g|g
  ·exact hno j hj g
  obtain rfl:j=i:=om;exact hb):A:=a
def KN (c:A:=by
  show ext gl [.string ⟨⟨a⟩⟩,.string ⟨⟨b⟩⟩]=_;rfl):A:=c
theorem KO (a:A:=by
  induction s with
  |nil=>exact Nat.le_refl _
  |cons c r ih=>
   grind [countB,List.length_cons]):A:=a
def KP (a:A:=by
  simp only[erase,Nat.zero_mul];rw[show k0 ρ (j' σ) st.n (j' σ)=st.n from X' rfl]):A:=a
def KQ (h:A:=by
  split at h
  ·exact xY hdf htm h
  ·cases h;exact⟨_,rfl,rfl,rfl,rfl⟩
  cases h):A:=h
theorem KR (a:A:=by
  show dt.ret (jN (i+1) b els (.ms (i+1) 5 0 n n))=_
  grind [jN,gr,eG]):A:=a
def KS (a:A:=by
  exact⟨i+1,⟨hi',Ob hi' ha (by rw[qn];simp_all)⟩,ik,.eS,Z,Z⟩):A:=a
def KT (h:A:=by
  have h':=eK (a:=65536) h;refine a8 0 ⟨Z,Z,?_⟩;rw[k5,X' h'];rfl):A:=h
theorem KU (h:A:=by
  rw[LN _ B5];rw[dH]at hgb;split at hgb
  ·grind
  exact h.obj _ _ _ hb hgb):A:=h
def KV (h:A:=by
  simp only[isDigit,Bool.and_eq_true,j_,Int.ofNat_eq_natCast]at h;omega):A:=h
def KW (a:A:=by
  exact b9 h1 (b9 h1 (fK (by simp only[isWord,h1,Bool.true_or]) hk))):A:=a
inductive Tr (α:Type)where
 |nil
 |node (v:Option α) (l r:Tr α)
def gj:Nat->Nat->n_ Bool
 |0,_=>[]
 |k+1,n=>match n with
  |0=>[]
  |m+1=>(aiu (m%2) 0)::gj k (m/2)
def path(n:Nat):n_ Bool:=gj n n
def jS{a:Type}:n_ Bool->Tr a->Option a
 |_,.nil=>u'
 |[],.node v _ _=>v
 |b::c,.node _ e d=>match b with
  |true=>jS c e
  |false=>jS c d
def nP{a:Type}(o:Option a):n_ Bool->Tr a->Tr a
 |[],.nil=>.node o .nil .nil
 |[],.node _ e d=>.node o e d
 |b::c,.nil=>match b with
  |true=>.node u' (nP o c .nil) .nil
  |false=>.node u' .nil (nP o c .nil)
 |b::c,.node v e d=>match b with
  |true=>.node v (nP o c e) d
  |false=>.node v e (nP o c d)
def Tr.get{a:Type}(t:Tr a)(n:Nat):Option a:=jS (path n) t
def Tr.put{a:Type}(t:Tr a)(n:Nat)(o:Option a):Tr a:=nP o (path n) t
def Tr.set{a:Type}(t:Tr a)(n:Nat)(v:a):Tr a:=t.put n (q' v)
def gC{a:Type}:Nat->n_ a->Tr a->Tr a
 |_,[],t=>t
 |i,v::b,t=>gC (i+1) b (t.set i v)
structure KX where
 state:LoopState
 pending:Option Code
 fn:D'
 tm:Tr C'
 nt:Nat
 params:List Tmp
 assign:Code
 body:Code
 defers:Nat
inductive gJ where
 |cells (c:List C') (es et fo:Nat)
 |map (entries:List MapEntry) (clock:Nat)
 |loop (l:KX)
 |fP (taken:Bool)
 |iter (s:ByteArray) (pos:Nat)
 |dead
structure St where
 hp:Tr gJ
 n:Nat
 fm:Tr (List Nat)
structure Fr where
 tm:Tr C'
 df:List J'
structure FC where
 fn:D'
 nt:Nat
 round:Option Nat
 Hv:Bool
inductive eM where
 |none
 |hD (v:C')
 |tC
inductive Ex where
 |norm
 |exit (id:Nat)
 |ret
 |panic (v:C')
inductive CR where
 |ret (v:C')
 |fJ (v:C')
inductive AR where
 |val (v:C') (st:St)
 |fJ (v:C') (st:St)
 |enter (f:D') (args:List C')
 |yield (l:Nat) (args:List C')
 |recover
 |defer (d:J')
structure TI where
 desc:N'
 size:Nat
 agg:Bool
 zero:List C'
 bytes:Nat
structure FI where
 nt:Nat
 body:Code
 B1:List ResultVar
structure eN where
 P:Program
 tt:Tr TI
 ff:Tr FI
 ext:r3
def eM.isNone:eM->Bool|.none=>A'|_=>B'
def St.new(st:St)(o:gJ):St:={st with hp:=st.hp.set st.n o,n:=st.n+1}
def St.put(st:St)(b:Nat)(o:gJ):St:={st with hp:=st.hp.set b o}
def St.get(st:St)(b:Nat):Option gJ:=st.hp.get b
def overlaps(fo a lo hi:Nat):Bool:=aiC fo hi&&aiC lo (fo+a)
def gm(b lo hi:Nat):n_ Nat->Tr gJ->Tr gJ×n_ Nat
 |[],a=>(a,[])
 |m::d,a=>
  match aiu m b with
  |true=>let e:=gm b lo hi d a;(e.1,m::e.2)
  |false=>
   match a.get m with
   |some (.cells c _ _ fo)=>
    match overlaps fo (j' c) lo hi with
    |true=>gm b lo hi d (a.set m .dead)
    |false=>let e:=gm b lo hi d a;(e.1,m::e.2)
   |_=>let e:=gm b lo hi d a;(e.1,m::e.2)
def St.kill(st:St)(et b lo hi:Nat):St:=
 match st.fm.get et with
 |none=>st
 |some a=>let c:=gm b lo hi a st.hp;{st with hp:=c.1,fm:=st.fm.set et c.2}
def eh:n_ C'->Nat->n_ C'->n_ C'
 |c,_,[]=>c
 |[],_,_::_=>[]
 |x::c,n,v::a=>match n with
  |0=>v::eh c 0 a
  |m+1=>x::eh c m (v::a)
def hX(st:St)(b o n:Nat):Option (n_ C'):=
 match st.get b with
 |some (.cells c _ _ _)=>match aiv (o+n) (j' c) with
  |true=>q' ((c.drop o).take n)
  |false=>u'
 |_=>u'
def gM:C'->Bool
 |.agg _|.tuple _=>B'
 |_=>A'
def ic(st:St)(b o:Nat)(a:n_ C'):Option St:=
 match st.get b with
 |some (.cells c es et fo)=>match aiv (o+j' a) (j' c)&&a.all gM with
  |true=>q' ((st.put b (.cells (eh c o a) es et fo)).kill et b (fo+o) (fo+o+j' a))
  |false=>u'
 |_=>u'
def newRow(st:St)(es:Nat)(c:n_ C'):Nat×St:=(st.n,st.new (.cells c es st.n 0))
def Oc(a:Bool)(c:n_ C'):Option C':=
 match a with
 |true=>q' (.agg c.toArray)
 |false=>match c with
  |[v]=>q' v
  |_=>u'
def cellsOf:C'->n_ C'
 |.agg a=>a.toList
 |v=>[v]
def mA:cC->cC->Bool
 |[],[]=>A'
 |a::d,b::c=>match aiu a.toNat b.toNat with
  |true=>mA d c
  |false=>B'
 |_,_=>B'
def cS:cC->cC->Bool
 |_,[]=>B'
 |[],_::_=>A'
 |a::d,b::c=>match aiC a.toNat b.toNat with
  |true=>A'
  |false=>match aiu a.toNat b.toNat with
   |true=>cS d c
   |false=>B'
def pO(a b:ByteArray):Bool:=mA a.data.toList b.data.toList
def KY(a b:ByteArray):Bool:=cS a.data.toList b.data.toList
def Rl(a b:ByteArray):ByteArray:=⟨⟨a.data.toList++b.data.toList⟩⟩
def Rm(a:ByteArray)(c b:Nat):ByteArray:=⟨⟨(a.data.toList.take b).drop c⟩⟩
def tD:Int->Int->Bool
 |.ofNat a,.ofNat b=>aiu a b
 |.negSucc a,.negSucc b=>aiu a b
 |_,_=>B'
def v8:E'->E'->Bool
 |.i8,.i8|.i16,.i16|.i32,.i32|.i64,.i64|.u8,.u8|.u16,.u16|.u32,.u32|.u64,.u64=>A'
 |_,_=>B'
def addrEq(a b:Addr):Bool:=aiu a.block b.block&&aiu a.off b.off&&(match a.spot,b.spot with|none,u'=>A'|_,_=>B')
def YB:Fn->Fn->Bool
 |.func b,.func a=>aiu b a
 |.yield b,.yield a=>aiu b a
 |_,_=>B'
mutual
def qa:C'->C'->Bool
 |.bool a,.bool b=>a==b
 |.int k a,.int k' b=>v8 k k'&&tD a b
 |.string a,.string b=>pO a b
 |.pointer u',.pointer u'=>A'
 |.pointer (q' a),.pointer (q' b)=>addrEq a b
 |.slice u' l c,.slice u' l' c'=>aiu l l'&&aiu c c'
 |.slice (q' a) l c,.slice (q' b) l' c'=>addrEq a b&&aiu l l'&&aiu c c'
 |.map u',.map u'=>A'
 |.map (q' a),.map (q' b)=>aiu a b
 |.func f ⟨a⟩ ⟨b⟩,.func f' ⟨a'⟩ ⟨b'⟩=>YB f f'&&CB a a'&&CB b b'
 |.nilFunc,.nilFunc=>A'
 |.nilIface,.nilIface=>A'
 |.iface t v,.iface t' v'=>aiu t t'&&qa v v'
 |.agg ⟨a⟩,.agg ⟨b⟩=>CB a b
 |.tuple ⟨a⟩,.tuple ⟨b⟩=>CB a b
 |_,_=>B'
def CB:n_ C'->n_ C'->Bool
 |[],[]=>A'
 |a::x,b::y=>qa a b&&CB x y
 |_,_=>B'
end
def nth{a:Type}:n_ a->Nat->Option a
 |[],_=>u'
 |x::b,n=>match n with
  |0=>q' x
  |m+1=>nth b m
def tF:Int->Int->Bool
 |.ofNat a,.ofNat b=>aiC a b
 |.negSucc a,.negSucc b=>aiC b a
 |.negSucc _,.ofNat _=>A'
 |.ofNat _,.negSucc _=>B'
def yH(a:n_ C'):Nat->n_ C'
 |0=>[]
 |n+1=>a++yH a n
def sb(a:Nat->Option (Nat×Nat)):n_ C'->n_ (Nat×C')->Option (n_ C')
 |cells,[]=>q' cells
 |cells,(e,v)::d=>
  match a e with
  |none=>u'
  |some (c,b)=>
   match aiu (j' (cellsOf v)) b&&aiv (c+b) (j' cells) with
   |true=>sb a (eh cells c (cellsOf v)) d
   |false=>u'
def nQ(a:H'->Option C'):n_ (Nat×H')->Option (n_ (Nat×C'))
 |[]=>q' []
 |(d,b)::c=>match a b,nQ a c with
  |some v,q' e=>q' ((d,v)::e)
  |_,_=>u'
def oW(a:H'->Option C'):n_ H'->Option (n_ C')
 |[]=>q' []
 |x::c=>match a x,oW a c with
  |some v,q' b=>q' (v::b)
  |_,_=>u'
def val(v:C')(st:St):Option AR:=q' (.val v st)
def ptr(b o:Nat):C':=.pointer (q' ⟨b,o,u'⟩)
def mM:C':=.tuple #[]
def zq(C:eN)(t:F')(st:St):Option AR:=
 match C.tt.get t with
 |some ti=>val (ptr st.n 0) (st.new (.cells ti.zero ti.size st.n 0))
 |none=>u'
def Rn(v:C')(st:St):Option AR:=
 match(cellsOf v).all gM with
 |true=>val (ptr st.n 0) (st.new (.cells (cellsOf v) (j' (cellsOf v)) st.n 0))
 |false=>u'
def iC(C:eN)(a:Array Field)(c:Nat):Option (Nat×Nat):=
 match nth a.toList c with
 |some b=>match C.tt.get b.type with
  |some ti=>q' (b.offset,ti.size)
  |none=>u'
 |none=>u'
def zn(C:eN)(t:F')(d:n_ (Nat×C'))(st:St):Option AR:=
 match C.tt.get t with
 |some ti=>
  match ti.desc with
  |.struct a=>
   match(a.toList.all λf=>(C.tt.get f.type).isSome),ti.agg,sb (iC C a) ti.zero d with
   |true,A',q' c=>val (.agg c.toArray) st
   |_,_,_=>u'
  |.array _ b=>
   match C.tt.get b,ti.agg with
   |some e,A'=>match sb (λg=>q' (g*e.size,e.size)) ti.zero d with
    |some c=>val (.agg c.toArray) st
    |none=>u'
   |_,_=>u'
  |_=>u'
 |none=>u'
def lp(C:eN)(t:F')(len:Nat)(d:n_ (Nat×C'))(st:St):Option AR:=
 match C.tt.get t with
 |some ti=>
  match ti.desc with
  |.slice b=>
   match C.tt.get b with
   |some a=>
    match aiC 0 a.size&&aiv (len*a.size) 16777216&&aiu (j' a.zero) a.size,sb (λe=>q' (e*a.size,a.size)) (yH a.zero len) d with
    |true,q' c=>match c.all gM with
     |true=>val (.slice (q' ⟨st.n,0,u'⟩) len len) (st.new (.cells c a.size st.n 0))
     |false=>u'
    |_,_=>u'
   |none=>u'
  |_=>u'
 |none=>u'
def At(C:eN)(t:F')(a:C')(st:St):Option AR:=
 match C.tt.get t,a with
 |some ti,.pointer (q' ⟨b,o,u'⟩)=>
  match ti.agg||aiu ti.size 1,hX st b o ti.size with
  |true,q' c=>match Oc ti.agg c with
   |some v=>val v st
   |none=>u'
  |_,_=>u'
 |_,_=>u'
def mN(C:eN)(t:F')(c a:C')(st:St):Option AR:=
 match C.tt.get t,c with
 |some ti,.pointer (q' ⟨b,o,u'⟩)=>
  match aiu (j' (cellsOf a)) ti.size with
  |true=>match ic st b o (cellsOf a)with
   |some dy=>val mM dy
   |none=>u'
  |false=>u'
 |_,_=>u'
def oX(a:C')(st:St):Option AR:=
 match a with
 |.pointer (q' _)=>val a st
 |.iface _ _=>val a st
 |.func (.func _) _ _=>val a st
 |.func (.yield _) _ _=>val a st
 |_=>u'
def lR:N'->C'->C'->Option Bool
 |.bool,.bool a,.bool b=>q' (a==b)
 |.int _,.int d a,.int c b=>match v8 d c with
  |true=>q' (tD a b)
  |false=>u'
 |.string,.string a,.string b=>q' (pO a b)
 |_,_,_=>u'
def wa(C:eN)(xs a:n_ C'):n_ Field->Option Bool
 |[]=>q' A'
 |f::d=>match f.name== "_" with
  |true=>u'
  |false=>match C.tt.get f.type,nth xs f.offset,nth a f.offset with
   |some ti,q' c,q' b=>match ti.agg with
    |true=>u'
    |false=>match lR ti.desc c b with
     |some A'=>wa C xs a d
     |some B'=>q' B'
     |none=>u'
   |_,_,_=>u'
def oY:H'->Bool
 |.const _=>A'
 |_=>B'
def Ro(C:eN)(t:F')(h f:H')(e b:C'):Option Bool:=
 match C.tt.get t with
 |none=>u'
 |some ti=>
  match ti.desc,e,b with
  |.interface _,.nilIface,.nilIface=>match oY h||oY f with
   |true=>q' A'
   |false=>u'
  |.interface _,.nilIface,.iface _ _=>q' B'
  |.interface _,.iface _ _,.nilIface=>q' B'
  |.struct a,.agg xs,.agg c=>match ti.bytes with
   |_=>match C.P.eqGuardType C.P.depth t||C.P.stoodInHeld t with
    |true=>u'
    |false=>wa C xs.toList c.toList a.toList
  |.slice _,.slice u' _ _,.slice g _ _=>q' g.isNone
  |.slice _,.slice _ _ _,.slice u' _ _=>q' B'
  |d,e,b=>lR d e b
def wb(d:BinOp)(a:E')(c b:Int):Option C':=
 match d with
 |.add=>q' (.int a (a.wrap (c+b)))
 |.sub=>q' (.int a (a.wrap (c-b)))
 |.mul=>q' (.int a (a.wrap (c*b)))
 |.quo=>match tD b 0 with|true=>u'|false=>q' (.int a (a.wrap (c.tdiv b)))
 |.and=>q' (.int a (a.wrap (BitVec.ofInt a.bits c&&&BitVec.ofInt a.bits b).toNat))
 |.or=>q' (.int a (a.wrap (BitVec.ofInt a.bits c|||BitVec.ofInt a.bits b).toNat))
 |.eql=>q' (.bool (tD c b))
 |.neq=>q' (.bool (!(tD c b)))
 |.lss=>q' (.bool (tF c b))
 |.leq=>q' (.bool (!(tF b c)))
 |.gtr=>q' (.bool (tF b c))
 |.geq=>q' (.bool (!(tF c b)))
 |_=>u'
def wc(c:BinOp)(a:E')(d:Int)(b:Int):Option C':=
 match b with
 |.ofNat n=>match c with
  |.shl=>q' (.int a (a.wrap (d*2^(min n a.bits))))
  |.shr=>q' (.int a (d.fdiv (2^(min n a.bits))))
  |_=>u'
 |_=>u'
def EM:BinOp->Bool
 |.shl=>A'
 |.shr=>A'
 |_=>B'
def zr(c:BinOp)(a b:ByteArray):Option C':=
 match c with
 |.add=>match aiv (j' a.data.toList+j' b.data.toList) 1099511627776 with
  |true=>q' (.string (Rl a b))
  |false=>u'
 |.eql=>q' (.bool (pO a b))
 |.neq=>q' (.bool (!(pO a b)))
 |.lss=>q' (.bool (KY a b))
 |.leq=>q' (.bool (KY a b||pO a b))
 |.gtr=>q' (.bool (!(KY a b||pO a b)))
 |.geq=>q' (.bool (!(KY a b)))
 |_=>u'
def LO(C:eN)(c:BinOp)(t:F')(h g:H')(a b:C'):Option C':=
 match a,b with
 |.int e d,.int f n=>match EM c with
  |true=>wc c e d n
  |false=>match v8 e f with
   |true=>wb c e d n
   |false=>u'
 |.string d,.string n=>zr c d n
 |a,b=>match c with
  |.eql=>(Ro C t h g a b).map .bool
  |.neq=>(Ro C t h g a b).map λi=>.bool (!i)
  |_=>u'
def aUn(a:UnOp)(d:C'):Option C':=
 match a,d with
 |.neg,.int c n=>q' (.int c (c.wrap (0-n)))
 |.not,.bool b=>q' (.bool (!b))
 |_,_=>u'
def toByte:C'->Option UInt8
 |.int .u8 (.ofNat n)=>q' (UInt8.ofNat n)
 |_=>u'
def uB:n_ C'->Option cC
 |[]=>q' []
 |v::c=>match toByte v,uB c with
  |some b,q' a=>q' (b::a)
  |_,_=>u'
def ofBytes(a:cC):n_ C':=a.map λb=>.int .u8 b.toNat
def jY(C:eN)(src d:F')(j:C')(st:St):Option AR:=
 match C.tt.get src,C.tt.get d with
 |some g,q' f=>
  match g.desc,f.desc,j with
  |.int _,.int i,.int _ n=>val (.int i (i.wrap n)) st
  |.string,.slice h,.string e=>
   match C.tt.get h with
   |some a=>match a.desc with
    |.int .u8=>val (.slice (q' ⟨st.n,0,u'⟩) (j' e.data.toList) (j' e.data.toList)) (st.new (.cells (ofBytes e.data.toList) 1 st.n 0))
    |_=>u'
   |none=>u'
  |.slice h,.string,.slice k len _=>
   match C.tt.get h with
   |some a=>match a.desc with
    |.int .u8=>match k with
     |none=>val (.string ⟨#[]⟩) st
     |some ⟨b,o,u'⟩=>match hX st b o len with
      |some c=>match uB c with
       |some l=>val (.string ⟨l.toArray⟩) st
       |none=>u'
      |none=>u'
     |_=>u'
    |_=>u'
   |none=>u'
  |_,_,_=>u'
 |_,_=>u'
def iS(C:eN)(t:F')(a:C')(st:St):Option AR:=
 match C.tt.get t with
 |some ti=>match ti.desc with
  |.interface _=>u'
  |_=>val (.iface t a) st
 |none=>u'
def aeu:Fn->Bool
 |.func _=>A'
 |_=>B'
def kp(C:eN)(t:F')(d c:C')(st:St):Option AR:=
 match C.tt.get t,d,c with
 |some ti,.int .i64 (.ofNat d),.int .i64 (.ofNat c)=>
  match ti.desc with
  |.slice b=>match C.tt.get b with
   |some a=>match aiv d c&&aiC 0 a.size&&aiv (c*a.bytes) 1099511627776&&aiv c 1099511627776&&aiu (j' a.zero) a.size with
    |true=>val (.slice (q' ⟨st.n,0,u'⟩) d c) (st.new (.cells (yH a.zero c) a.size st.n 0))
    |false=>u'
   |none=>u'
  |_=>u'
 |_,_,_=>u'
def oZ:Option C'->Nat->Option Nat
 |none,a=>q' a
 |some (.int _ (.ofNat n)),_=>q' n
 |_,_=>u'
def Vl(st:St)(b:Nat):Option Nat:=
 match st.get b with
 |some (.cells _ es _ _)=>q' es
 |_=>u'
def qc(C:eN)(t:F')(k:C')(lo hi e:Option C')(st:St):Option AR:=
 match C.tt.get t with
 |none=>u'
 |some ti=>
  match ti.desc,k with
  |.string,.string h=>
   match oZ lo 0,oZ hi (j' h.data.toList),e with
   |some f,q' c,u'=>match aiv f c&&aiv c (j' h.data.toList) with
    |true=>val (.string (Rm h f c)) st
    |false=>u'
   |_,_,_=>u'
  |.slice d,.slice j len a=>
   match C.tt.get d,oZ lo 0,oZ hi len,oZ e a with
   |some g,q' f,q' c,q' i=>
    match aiv f c&&aiv c i&&aiv i a&&(hi.isSome||e.isNone)with
    |false=>u'
    |true=>
     match j with
     |none=>match aiu a 0 with
      |true=>val (.slice u' 0 0) st
      |false=>u'
     |some ⟨b,o,u'⟩=>
      match aiu a 0 with
      |true=>val (.slice j 0 0) st
      |false=>match Vl st b with
       |some es=>match aiu es g.size with
        |true=>val (.slice (q' ⟨b,o+f*g.size,u'⟩) (c-f) (i-f)) st
        |false=>u'
       |none=>u'
     |_=>u'
   |_,_,_,_=>u'
  |_,_=>u'
def gW(C:eN)(g:F')(f:C')(e:Nat)(st:St):Option AR:=
 match C.tt.get g,f with
 |some ti,.pointer (q' ⟨b,o,u'⟩)=>
  match ti.desc with
  |.struct a=>match iC C a e with
   |some (d,c)=>match aiC 0 c with
    |true=>val (ptr b (o+d)) st
    |false=>u'
   |none=>u'
  |_=>u'
 |_,_=>u'
def Ft(C:eN)(t:F')(b:n_ C')(a:Nat):Option C':=
 match C.tt.get t with
 |some ti=>match ti.agg with
  |true=>match aiv (a+ti.size) (j' b) with
   |true=>q' (.agg ((b.drop a).take ti.size).toArray)
   |false=>u'
  |false=>nth b a
 |none=>u'
def zs(C:eN)(t:F')(e:C')(d:Nat)(st:St):Option AR:=
 match C.tt.get t,e with
 |some ti,.agg c=>
  match ti.desc with
  |.struct a=>match nth a.toList d with
   |some b=>match Ft C b.type c.toList b.offset with
    |some v=>val v st
    |none=>u'
   |none=>u'
  |_=>u'
 |_,_=>u'
def iT(C:eN)(t:F')(e f:C')(st:St):Option AR:=
 match C.tt.get t,e,f with
 |some ti,.slice (q' ⟨b,o,u'⟩) len _,.int _ (.ofNat d)=>
  match ti.desc with
  |.slice a=>match C.tt.get a with
   |some c=>match aiC d len with
    |true=>val (ptr b (o+d*c.size)) st
    |false=>u'
   |none=>u'
  |_=>u'
 |_,_,_=>u'
def we(C:eN)(t:F')(f h:C')(st:St):Option AR:=
 match C.tt.get t,f,h with
 |some ti,.string g,.int _ (.ofNat c)=>
  match ti.desc with
  |.string=>match nth g.data.toList c with
   |some b=>val (.int .u8 b.toNat) st
   |none=>u'
  |_=>u'
 |some ti,.agg e,.int _ (.ofNat c)=>
  match ti.desc with
  |.array len a=>match C.tt.get a with
   |some d=>match aiC c len with
    |true=>match Ft C a e.toList (c*d.size)with
     |some v=>val v st
     |none=>u'
    |false=>u'
   |none=>u'
  |_=>u'
 |_,_,_=>u'
def Dy(a:N')(b:C'):n_ MapEntry->Nat->Option (Option (Nat×C'))
 |[],_=>q' u'
 |e::d,c=>match lR a b e.key with
  |some A'=>q' (q' (c,e.val))
  |some B'=>Dy a b d (c+1)
  |none=>u'
def tG:N'->Bool
 |.string=>A'
 |.int _=>A'
 |.bool=>A'
 |_=>B'
def sc(C:eN)(t:F')(g i:C')(a:Bool)(st:St):Option AR:=
 match C.tt.get t with
 |none=>u'
 |some ti=>
  match ti.desc with
  |.map d e=>
   match C.tt.get d,C.tt.get e with
   |some c,q' b=>
    match tG c.desc with
    |false=>u'
    |true=>
     match(match g with
      |.map u'=>q' []
      |.map (q' h)=>match st.get h with
       |some (.map es _)=>q' es
       |_=>u'
      |_=>u':Option (n_ MapEntry))with
     |none=>u'
     |some es=>match Dy c.desc i es 0 with
      |none=>u'
      |some (q' (_,v))=>val (if a then .tuple #[v,.bool A']else v) st
      |some u'=>match Oc b.agg b.zero with
       |none=>u'
       |some f=>val (if a then .tuple #[f,.bool B']else f) st
   |_,_=>u'
  |_=>u'
def zt:n_ MapEntry->Nat->C'->C'->n_ MapEntry
 |[],_,_,_=>[]
 |e::b,d,a,v=>match d with
  |0=>{e with key:=a,val:=v}::b
  |c+1=>e::zt b c a v
def kq(C:eN)(t:F')(g e v:C')(st:St):Option AR:=
 match C.tt.get t,g with
 |some ti,.map (q' d)=>
  match ti.desc with
  |.map c _=>
   match C.tt.get c,st.get d with
   |some b,q' (.map es a)=>
    match tG b.desc with
    |false=>u'
    |true=>match Dy b.desc e es 0 with
     |none=>u'
     |some (q' (f,_))=>val mM (st.put d (.map (zt es f e v) a))
     |some u'=>val mM (st.put d (.map (es++[{key:=e,val:=v,born:=a}]) (a+1)))
   |_,_=>u'
  |_=>u'
 |_,_=>u'
def ki(C:eN)(c:C')(t:F')(a:Bool)(st:St):Option AR:=
 match C.tt.get t with
 |none=>u'
 |some ti=>
  match ti.desc with
  |.interface _=>u'
  |_=>
   match c with
   |.iface d v=>match aiu d t with
    |true=>val (if a then .tuple #[v,.bool A']else v) st
    |false=>match a,Oc ti.agg ti.zero with
     |true,q' b=>val (.tuple #[b,.bool B']) st
     |_,_=>u'
   |.nilIface=>match a,Oc ti.agg ti.zero with
    |true,q' b=>val (.tuple #[b,.bool B']) st
    |_,_=>u'
   |_=>u'
def rh(b:C')(c:Nat)(st:St):Option AR:=
 match b with
 |.tuple a=>match nth a.toList c with
  |some v=>val v st
  |none=>u'
 |_=>u'
def lq(st:St)(es n:Nat):C'->Option (n_ C')
 |.slice u' _ _=>q' []
 |.slice (q' ⟨b,o,u'⟩) _ _=>hX st b o (n*es)
 |.string a=>q' (ofBytes (a.data.toList.take n))
 |_=>u'
def zu:C'->Option Nat
 |.slice _ n _=>q' n
 |.string a=>q' (j' a.data.toList)
 |_=>u'
def en:Nat:=1099511627776
def gQ(st:St)(es:Nat)(a:Option Addr)(len d:Nat)(n:Nat)(xs:n_ C'):Option AR:=
 match aiv (len+n) d with
 |true=>
  match a with
  |none=>val (.slice u' (len+n) d) st
  |some ⟨b,o,u'⟩=>
   match xs with
   |[]=>val (.slice a (len+n) d) st
   |_=>match ic st b (o+len*es) xs with
    |some dy=>val (.slice a (len+n) d) dy
    |none=>u'
  |_=>u'
 |false=>
  match a with
  |none=>val (.slice (q' ⟨st.n,0,u'⟩) n n) (st.new (.cells xs es st.n 0))
  |some ⟨b,o,u'⟩=>
   match st.get b with
   |some (.cells c h et fo)=>
    match aiu h es,hX st b o (len*es)with
    |true,q' old=>
     let e:=st.kill et st.n (fo+o+len*es) (fo+o+(len+n)*es)
     let g:=match e.fm.get et with|some g=>g|none=>if aiv (j' c) (o+len*es)then [b]else []
     let f:=if aiv (j' c) (o+len*es)then e else e.put b .dead
     val (.slice (q' ⟨st.n,0,u'⟩) (len+n) (len+n))
      {hp:=f.hp.set st.n (.cells (old++xs) es et (fo+o)),n:=st.n+1,fm:=f.fm.set et (st.n::g)}
    |_,_=>u'
   |_=>u'
  |_=>u'
def qF(C:eN)(a:n_ F')(c:n_ C')(st:St):Option AR:=
 match a,c with
 |[h,i],[k,j]=>
  match C.tt.get h,C.tt.get i,k with
  |some ti,q' f,.slice d len g=>
   match ti.desc with
   |.slice e=>
    match C.tt.get e with
    |some b=>
     match f.desc with
     |.int _=>u'
     |_=>match zu j with
      |none=>u'
      |some n=>match lq st b.size n j with
       |none=>u'
       |some xs=>match aiC 0 b.size&&aiu (j' xs) (n*b.size)&&xs.all gM&&aiv ((len+n)*b.bytes) en&&aiv (len+n) en&&aiu (j' b.zero) b.size with
        |true=>gQ st b.size d len g n xs
        |false=>u'
    |none=>u'
   |_=>u'
  |_,_,_=>u'
 |_,_=>u'
def CC(C:eN)(a:n_ F')(b:n_ C')(st:St):Option AR:=
 match a,b with
 |t::_,c::_=>
  match C.tt.get t with
  |none=>u'
  |some ti=>
   match ti.desc,c with
   |.string,.string d=>val (.int .i64 (.ofNat (j' d.data.toList))) st
   |.slice _,.slice _ n _=>val (.int .i64 (.ofNat n)) st
   |.map _ _,.map u'=>val (.int .i64 (.ofNat 0)) st
   |.map _ _,.map (q' e)=>match st.get e with
    |some (.map es _)=>val (.int .i64 (.ofNat (j' es))) st
    |_=>u'
   |_,_=>u'
 |_,_=>u'
def sd(c:Bool):C'->n_ C'->Option C'
 |.int d a,[]=>q' (.int d a)
 |.int d a,.int _ b::e=>sd c (.int d (if(match c with|true=>tF a b|false=>tF b a)then b else a)) e
 |_,_=>u'
def ll(C:eN)(b:Builtin)(a:n_ F')(c:n_ C')(st:St):Option AR:=
 match b with
 |.append=>qF C a c st
 |.len=>CC C a c st
 |.max=>match c with
  |x::d=>match sd A' x d with
   |some v=>val v st
   |none=>u'
  |[]=>u'
 |.min=>match c with
  |x::d=>match sd B' x d with
   |some v=>val v st
   |none=>u'
  |[]=>u'
 |.recover=>q' .recover
 |_=>u'
def mO(C:eN)(e:C')(b:n_ C')(st:St):Option AR:=
 match e with
 |.func (.func d) first a=>
  let c:=first.toList++b++a.toList
  match C.ff.get d with
  |some _=>q' (.enter d c)
  |none=>match C.ext d c with
   |some v=>val v st
   |none=>u'
 |.func (.yield f) first _=>match first.toList with
  |[]=>q' (.yield f b)
  |_=>u'
 |_=>u'
def Fu(c:C')(args:n_ C'):Option AR:=
 match c with
 |.func (.func b) first a=>q' (.defer {target:=.fn (.func b) a,args:=(first.toList++args).toArray})
 |_=>u'
def kZ(C:eN)(a:H'->Option C')(o:M')(st:St):Option AR:=
 match o.op with
 |.move d=>match a d with|some v=>val v st|none=>u'
 |.assign d=>match a d with|some v=>val v st|none=>u'
 |.pick c i b=>match a c,a i,a b with
  |some (.bool t),q' f,q' v=>val (match t with|true=>f|false=>v) st
  |_,_,_=>u'
 |.alloc t=>zq C t st
 |.box _ d=>match a d with|some v=>Rn v st|none=>u'
 |.build t j=>match nQ a j.toList with|some g=>zn C t g st|none=>u'
 |.buildSlice t n j=>match nQ a j.toList with|some g=>lp C t n g st|none=>u'
 |.load t i=>match a i with|some v=>At C t v st|none=>u'
 |.store t i d=>match a i,a d with|some v,q' f=>mN C t v f st|_,_=>u'
 |.nilCheck d=>match a d with|some v=>oX v st|none=>u'
 |.binOp p t d u _=>match a d,a u with
  |some f,q' v=>match LO C p t d u f v with
   |some r=>val r st
   |none=>u'
  |_,_=>u'
 |.unOp p _ d=>match a d with
  |some f=>match aUn p f with
   |some r=>val r st
   |none=>u'
  |none=>u'
 |.convert x w d=>match a d with|some v=>jY C x w v st|none=>u'
 |.makeInterface t d=>match a d with|some v=>iS C t v st|none=>u'
 |.makeFunc fn i b=>match aeu fn,oW a i.toList,oW a b.toList with
  |true,q' f,q' v=>val (.func fn f.toArray v.toArray) st
  |_,_,_=>u'
 |.makeMap _ u'=>val (.map (q' st.n)) (st.new (.map [] 0))
 |.makeSlice t g c=>match a g,a c with|some f,q' v=>kp C t f v st|_,_=>u'
 |.slice t d lo hi s=>match a d,(match lo with|none=>q' u'|some g=>(a g).map q'),(match hi with|none=>q' u'|some g=>(a g).map q'),(match s with|none=>q' u'|some g=>(a g).map q')with
  |some v,q' g,q' y,q' h=>qc C t v g y h st
  |_,_,_,_=>u'
 |.fieldAddr t d k=>match a d with|some v=>gW C t v k st|none=>u'
 |.field t d k=>match a d with|some v=>zs C t v k st|none=>u'
 |.indexAddr t d q=>match a d,a q with|some f,q' v=>iT C t f v st|_,_=>u'
 |.index t d q=>match a d,a q with|some f,q' v=>we C t f v st|_,_=>u'
 |.lookup t d q m=>match a d,a q with|some f,q' v=>sc C t f v m st|_,_=>u'
 |.mapUpdate t h l v=>match a h,a l,a v with|some h,q' l,q' v=>kq C t h l v st|_,_,_=>u'
 |.insert t h l v=>match a h,a l,a v with|some h,q' l,q' v=>kq C t h l v st|_,_,_=>u'
 |.typeAssert d _ t m=>match a d with|some v=>ki C v t m st|none=>u'
 |.extract d q=>match a d with|some v=>rh v q st|none=>u'
 |.call c=>match oW a c.args.toList with
  |none=>u'
  |some e=>match c.callee with
   |.builtin b=>ll C b c.argTypes.toList e st
   |.value k=>match a k with
    |some v=>mO C v e st
    |none=>u'
   |.invoke _ _=>u'
 |.defer c=>match oW a c.args.toList,c.callee with
  |some e,.value k=>match a k with
   |some v=>Fu v e
   |none=>u'
  |_,_=>u'
 |.panic d=>match a d with
  |some (.iface t v)=>q' (.fJ (.iface t v) st)
  |_=>u'
 |_=>u'
def flat:C'->Bool
 |.bool _=>A'
 |.int _ _=>A'
 |.string _=>A'
 |.pointer u'=>A'
 |.slice u' 0 0=>A'
 |.map u'=>A'
 |.nilFunc=>A'
 |.nilIface=>A'
 |_=>B'
def tH:C'->Bool
 |.agg ⟨a⟩=>a.all flat
 |v=>flat v
structure Rec where
 code:FC->Code->Fr->eM->St->Option (Ex×Fr×eM×St)
 call:D'->List C'->Bool->eM->St->Option (CR×eM×St)
 round:Nat->List C'->St->Option (CR×St)
def abJ:Rec:=⟨λ_ _ _ _ _=>u',λ_ _ _ _ _=>u',λ_ _ _=>u'⟩
def nR(a:Fr):H'->Option C'
 |.tmp t=>a.tm.get t
 |.const v=>match tH v with
  |true=>q' v
  |false=>u'
 |.global _=>u'
 |.func b=>q' (.func (.func b) #[] #[])
def kr(c:Nat)(a:Fr)(b:Option Tmp)(v:C'):Option Fr:=
 match b with
 |none=>q' a
 |some d=>match aiC d c with
  |true=>q' {a with tm:=a.tm.set d v}
  |false=>u'
inductive Ee where
 |next (fr:Fr) (ps:eM) (st:St)
 |fJ (v:C') (fr:Fr) (ps:eM) (st:St)
def Ee.go(d:Nat)(e:Fr)(a:Option Tmp)(v:C')(c:eM)(st:St):Option Ee:=
 match kr d e a v with
 |some b=>q' (.next b c st)
 |none=>u'
def pM(C:eN)(e:Rec)(c:FC)(o:M')(a:Fr)(b:eM)(st:St):Option Ee:=
 match kZ C (nR a) o st with
 |none=>u'
 |some (.val v dy)=>Ee.go c.nt a o.dst v b dy
 |some (.fJ v dy)=>q' (.fJ v a b dy)
 |some (.enter g d)=>match e.call g d B' .none st with
  |some (.ret v,_,dy)=>Ee.go c.nt a o.dst v b dy
  |some (.fJ v,_,dy)=>q' (.fJ v a b dy)
  |none=>u'
 |some (.yield h d)=>match e.round h d st with
  |some (.ret v,dy)=>Ee.go c.nt a o.dst v b dy
  |some (.fJ v,dy)=>q' (.fJ v a b dy)
  |none=>u'
 |some .recover=>match c.round with
  |some _=>u'
  |none=>match c.Hv,b with
   |true,.hD v=>Ee.go c.nt a o.dst v .tC st
   |_,_=>Ee.go c.nt a o.dst .nilIface b st
 |some (.defer f)=>match c.round with
  |some _=>u'
  |none=>Ee.go c.nt {a with df:=f::a.df} o.dst mM b st
def jd(c:n_ M')(e:Fr)(o:M'):Option Bool:=
 match o.guard with
 |none=>q' A'
 |some (g,a)=>match nth c g with
  |none=>u'
  |some d=>match d.dst with
   |none=>u'
   |some f=>match e.tm.get f with
    |some (.bool b)=>q' (match b,a with|true,A'=>A'|false,B'=>A'|_,_=>B')
    |some (.tuple _)=>q' B'
    |_=>u'
def mP(C:eN)(e:Rec)(d:FC)(c:n_ M')(o:M')(a:Fr)(b:eM)(st:St):Option Ee:=
 match jd c a o with
 |none=>u'
 |some B'=>Ee.go d.nt a o.dst mM b st
 |some A'=>pM C e d o a b st
def ri(C:eN)(e:Rec)(d:FC)(c:n_ M'):n_ M'->Fr->eM->St->Option (Ex×Fr×eM×St)
 |[],b,a,st=>q' (.norm,b,a,st)
 |o::f,b,a,st=>match mP C e d c o b a st with
  |none=>u'
  |some (.next b a st)=>ri C e d c f b a st
  |some (.fJ v b a st)=>q' (.panic v,b,a,st)
def hY:Op->Bool
 |.assign _|.store .. |.mapUpdate .. |.mapEntry .. |.entryStore .. |.insert .. |.ready _|.next .. |.go _|.defer _|.panic _|.send .. |.recv .. |.select .. =>A'
 |.call {callee:=.builtin b,.. }=>match b with
  |.len|.cap|.min|.max=>B'
  |_=>A'
 |.call _=>A'
 |_=>B'
def hZ:Op->Bool
 |.alloc _|.box .. |.buildSlice .. |.makeMap .. =>A'
 |_=>B'
def o5(a:n_ M')(b:Nat):Option M':=nth a b
def subset(a b:Nat):Bool:=aiu (Nat.land a b) a
def Od:Op->Bool
 |.store .. |.indexAddr .. |.fieldAddr .. =>A'
 |_=>B'
def chained(a:n_ M')(d:n_ Nat)(h:Nat):Bool:=
 (aiI h).all λe=>match nth a e with
  |none=>B'
  |some f=> !(hY f.op)||(aiI e).all λg=>match nth a g with
   |none=>B'
   |some c=> !(hY c.op)||(match nth d e with|some b=>aiJ b g|none=>B')
def Fv(a:n_ M')(d:n_ Nat)(n c:Nat):Bool:=
 (aiI (n-c)).all λe=>(match nth d (c+e)with|some b=>subset (2^c-1) b|none=>B')&&(match nth a (c+e)with|some o=>Od o.op&&o.guard.isNone|none=>B')
def YC(a:n_ M')(b:n_ Nat):Nat->Nat
 |0=>0
 |m+1=>match chained a b (m+1)&&Fv a b (j' a) (m+1)with
  |true=>m+1
  |false=>YC a b m
structure ahs where
 bs:List Nat
 m:Nat
 order:List Nat
def zv{a:Type}(n:Nat)(b:Nat->a):a:=
 match n with
 |0=>b 0
 |m+1=>b (m+1)
def LP{a:Type}:n_ Nat->(n_ Nat->a)->a
 |[],b=>b []
 |x::c,b=>zv x λx=>LP c λc=>b (x::c)
def rowOf(c:n_ Nat)(o:M'):Nat:=o.after.toList.foldl (λd a=>match Region.binds .any a with|true=>Nat.lor (Nat.lor d (2^a.on)) (match nth c a.on with|some b=>b|none=>0)|false=>d) 0
def YD:n_ M'->n_ Nat->n_ Nat
 |[],a=>a
 |o::b,a=>LP (a++[rowOf a o]) λa=>YD b a
def YE:n_ M'->n_ Nat->Nat->Nat->Option Nat
 |o::e,b::c,d,a=>match hY o.op with
  |true=>match subset a b with
   |true=>zv (Nat.lor a (2^d)) λa=>YE e c (d+1) a
   |false=>q' d
  |false=>YE e c (d+1) a
 |_,_,_,_=>u'
def TT:n_ M'->n_ Nat->Nat->Nat->n_ (Nat×Bool×Nat)
 |o::d,b::a,c,n+1=>(c,hY o.op,b)::TT d a (c+1) n
 |_,_,_,_=>[]
def Oe:n_ (Nat×Bool×Nat)->Option Nat
 |[]=>u'
 |(b,A',_)::_=>q' b
 |(_,B',_)::a=>Oe a
def early(a:Nat):Nat×Bool×Nat->Bool
 |(_,A',_)=>B'
 |(_,B',b)=> !(aiJ b a)
def TU:Nat->n_ (Nat×Bool×Nat)->n_ Nat
 |0,_=>[]
 |a+1,c=>match Oe c with
  |none=>c.map (·.1)
  |some b=>(c.filter (early b)).map (·.1)++b::TU a (c.filter λd=> !(aiu d.1 b)&& !(early b d))
def vM(a:n_ M'):ahs:=
 LP (YD a []) λc=>
 zv (match YE a c 0 0 with|none=>j' a|some e=>YC a c e) λd=>
 LP (TU (d+1) (TT a c 0 d)) λb=>⟨c,d,b⟩
inductive uC where
 |val (i:Nat) (v:C')
 |obj (i:Nat) (v:C') (b:Nat) (o:gJ)
 |skip (i:Nat)
def TV(a b:MapEntry):Bool:=qa a.key b.key&&qa a.val b.val&&aiu a.born b.born
def q5:n_ MapEntry->n_ MapEntry->Bool
 |[],[]=>A'
 |a::d,b::c=>TV a b&&q5 d c
 |_,_=>B'
def As:gJ->gJ->Bool
 |.cells c m j h,.cells e g f a=>CB c e&&aiu m g&&aiu j f&&aiu h a
 |.map es l,.map b i=>q5 es b&&aiu l i
 |.iter k h,.iter d a=>pO k d&&aiu h a
 |_,_=>B'
def Dz(b:Fr)(a:Option Tmp)(v:C'):Bool:=
 match a with
 |none=>A'
 |some c=>match b.tm.get c with
  |some d=>qa d v
  |none=>B'
def isSome(a:Option Bool)(b:Bool):Bool:=
 match a,b with
 |some A',A'=>A'
 |some B',B'=>A'
 |_,_=>B'
def rj(C:eN)(a:n_ M')(b:Fr)(st:St):uC->Bool
 |.val e v=>match nth a e with
  |some o=>isSome (jd a b o) A'&& !(hZ o.op)&&Dz b o.dst v&&(match kZ C (nR b) o st with
   |some (.val g h)=>qa g v&&aiu h.n st.n
   |_=>B')
  |none=>B'
 |.obj e v d f=>match nth a e with
  |some o=>isSome (jd a b o) A'&&hZ o.op&&Dz b o.dst v&&(match st.get d with
   |some c=>As c f
   |none=>B')&&(match kZ C (nR b) o ⟨.nil,d,.nil⟩with
   |some (.val g h)=>qa g v&&(match h.get d with
    |some c=>As c f
    |none=>B')
   |_=>B')
  |none=>B'
 |.skip e=>match nth a e with
  |some o=>isSome (jd a b o) B'&&Dz b o.dst mM
  |none=>B'
def uC.idx:uC->Nat
 |.val a _=>a
 |.obj a _ _ _=>a
 |.skip a=>a
def qG(C:eN)(a:n_ M')(d:Fr)(st:St)(b:Nat):n_ uC->Bool
 |[]=>A'
 |c::e=>(aiJ b c.idx||rj C a d st c)&&qG C a d st b e
def q6(b:n_ M')(a:Tr C'):Tr C':=
 b.foldl (λa o=>match o.dst with
  |some c=>match hY o.op with
   |true=>a
   |false=>a.put c u'
  |none=>a) a
def gg(C:eN)(g:Rec)(f:FC)(c:n_ M')(h:n_ Nat):n_ Nat->Nat->n_ uC->Fr->eM->St->Option (Ex×Fr×eM×St)
 |[],b,d,a,e,st=>
  match qG C c a st b d with
  |true=>q' (.norm,a,e,st)
  |false=>u'
 |i::j,b,d,a,e,st=>
  match nth c i,nth h i with
  |some o,q' k=>
   match hY o.op with
   |true=>
    match qG C c a st b d with
    |false=>u'
    |true=>match mP C g f c o a e st with
     |none=>u'
     |some (.fJ v a e st)=>q' (.panic v,{a with tm:=q6 c a.tm},e,st)
     |some (.next a e st)=>gg C g f c h j k d a e st
   |false=>
    match jd c a o with
    |none=>u'
    |some B'=>match kr f.nt a o.dst mM with
     |some a=>gg C g f c h j b (.skip i::d) a e st
     |none=>u'
    |some A'=>match kZ C (nR a) o st with
     |some (.val v dy)=>match kr f.nt a o.dst v with
      |none=>u'
      |some a=>match hZ o.op with
       |true=>match dy.get st.n with
        |some l=>gg C g f c h j b (.obj i v st.n l::d) a e dy
        |none=>u'
       |false=>match aiu dy.n st.n with
        |true=>gg C g f c h j b (.val i v::d) a e dy
        |false=>u'
     |_=>u'
  |_,_=>u'
def apart(st:St)(b a:Nat):Bool:=
 match st.get b,st.get a with
 |some (.cells _ _ f1 _),q' (.cells _ _ f2 _)=>
  !(aiu b a)&& !(aiu f1 f2)&&(match st.fm.get f2 with|none=>A'|some _=>B')&&(match st.fm.get f1 with|none=>A'|some ms=> !(ms.any (aiu a)))
 |_,_=>B'
def KZ(C:eN)(d b:Nat)(fo:Option M')(a:Fr)(st:St):Option (Fr×Fr):=
 match fo with
 |none=>q' (⟨a.tm.put b u',a.df⟩,⟨a.tm.put b u',a.df⟩)
 |some e=>match e.dst,e.op with
  |some c,.fieldAddr t f n=>match aiu b c,aiC c d,nR ⟨(a.tm.put c u').put b u',a.df⟩ f with
   |false,A',q' g=>match gW C t g n st with
    |some (.val v _)=>q' (⟨(a.tm.put c u').put b u',a.df⟩,⟨((a.tm.put c u').put b u').set c v,a.df⟩)
    |_=>u'
   |_,_,_=>u'
  |_,_=>u'
def K0(C:eN)(i:FC)(f o:M')(fo:Option M')(h:M')(s:Fr)(r:eM)(st:St):Option (Ex×Fr×eM×St):=
 match f.dst,o.dst,h.dst,o.op,h.op,hY f.op||hZ f.op with
 |some n,u',u',.store t1 w q,.store t2 u x,B'=>
  match KZ C i.nt n fo s st,aiC n i.nt with
  |some (f0,ff),A'=>match kZ C (nR f0) f st with
   |some (.val v p)=>match nR ⟨f0.tm.set n v,f0.df⟩ w,nR ⟨f0.tm.set n v,f0.df⟩ q,nR ff u,nR ff x,aiu p.n st.n with
    |some (.pointer (q' ⟨b,m,u'⟩)),q' l,q' (.pointer (q' ⟨e,k,u'⟩)),q' j,A'=>
     match apart st b e,mN C t1 (.pointer (q' ⟨b,m,u'⟩)) l st,mN C t2 (.pointer (q' ⟨e,k,u'⟩)) j st with
     |true,q' (.val _ g),q' (.val _ a)=>match kZ C (nR f0) f a,mN C t2 (.pointer (q' ⟨e,k,u'⟩)) j g,mN C t1 (.pointer (q' ⟨b,m,u'⟩)) l a with
      |some (.val t d),q' (.val _ c),q' (.val _ _)=>match qa v t&&aiu d.n a.n with
       |true=>q' (.norm,⟨ff.tm.set n v,ff.df⟩,r,c)
       |false=>u'
      |_,_,_=>u'
     |_,_,_=>u'
    |_,_,_,_,_=>u'
   |_=>u'
  |_,_=>u'
 |_,_,_,_,_,_=>u'
def region(C:eN)(j:Rec)(e:FC)(a:Array M')(i:Bool)(c:Fr)(b:eM)(st:St):Option (Ex×Fr×eM×St):=
 match i with
 |false=>ri C j e a.toList a.toList c b st
 |true=>
  let d:=vM a.toList
  match gg C j e a.toList d.bs d.order 0 [] c b st with
  |some (.norm,c,b,st)=>match aiu d.m (j' a.toList) with
   |true=>q' (.norm,c,b,st)
   |false=>match a.toList.drop d.m,nth d.bs (d.m+1)with
    |[k,h,g],q' f=>match aiJ f d.m with
     |true=>K0 C e k h u' g c b st
     |false=>u'
    |[k,h,m,g],q' f=>match aiJ f d.m,nth d.bs (d.m+3)with
     |true,q' l=>match aiJ l (d.m+2)with
      |true=>K0 C e k h (q' m) g c b st
      |false=>u'
     |_,_=>u'
    |_,_=>u'
  |r=>r
def rk(a:FC)(b:Fr)(params:n_ Tmp)(assign body:Code)(st:St):Option (Nat×Fr×St):=
 match a.round with
 |some f=>match st.get f with
  |some (.loop d)=>q' (st.n,b,st.new (.loop {state:=.ready,pending:=u',fn:=a.fn,tm:=b.tm,nt:=a.nt,params,assign,body,defers:=d.defers}))
  |_=>u'
 |none=>
  let e:=st.n
  let c:=st.new (.fP B')
  q' (c.n,{b with df:={target:=.collected e,args:= #[]}::b.df},c.new (.loop {state:=.ready,pending:=u',fn:=a.fn,tm:=b.tm,nt:=a.nt,params,assign,body,defers:=e}))
def LQ:Option Code->Option Ex
 |none=>q' .norm
 |some .ret=>q' .ret
 |some (.exit id)=>q' (.exit id)
 |_=>u'
def code(C:eN)(f:Rec)(e:FC):Code->Fr->eM->St->Option (Ex×Fr×eM×St)
 |.skip,a,d,st=>q' (.norm,a,d,st)
 |.region _ n m,a,d,st=>region C f e n m a d st
 |.seq o b,a,d,st=>match code C f e o a d st with
  |some (.norm,a,d,st)=>code C f e b a d st
  |r=>r
 |.cond c o b,a,d,st=>match nR a c with
  |some (.bool A')=>code C f e o a d st
  |some (.bool B')=>code C f e b a d st
  |_=>u'
 |.block id b,a,d,st=>match code C f e b a d st with
  |some (.exit j,a,d,st)=>match aiu j id with
   |true=>q' (.norm,a,d,st)
   |false=>q' (.exit j,a,d,st)
  |r=>r
 |.loop b,a,d,st=>match code C f e b a d st with
  |some (.norm,a,d,st)=>f.code e (.loop b) a d st
  |r=>r
 |.rangeFunc s i h l,a,d,st=>
  match nR a s,rk e a i.toList h l st with
  |some (.func (.func q) first g),q' (p,a,st)=>
   match C.ff.get q with
   |none=>u'
   |some _=>match f.call q (first.toList++[.func (.yield p) #[] #[]]++g.toList) B' .none st with
    |some (.ret _,_,st)=>match st.get p with
     |some (.loop k)=>match k.state with
      |.busy=>u'
      |_=>match LQ k.pending with
       |some t=>q' (t,a,d,st.put p (.loop {k with state:=.exhausted}))
       |none=>u'
     |_=>u'
    |some (.fJ v,_,st)=>q' (.panic v,a,d,st)
    |none=>u'
  |_,_=>u'
 |.exit id,a,d,st=>q' (.exit id,a,d,st)
 |.ret,a,d,st=>q' (.ret,a,d,st)
 |_,_,_,_=>u'
inductive Mode where
 |returning
 |panicking (v:C')
def mB(C:eN)(b:Rec):n_ J'->Mode->St->Option (Mode×St)
 |[],m,st=>q' (m,st)
 |d::c,m,st=>
  match d.target with
  |.collected g=>match st.get g with
   |some (.fP B')=>mB C b c m (st.put g (.fP A'))
   |_=>u'
  |.fn (.func f) a=>
   match C.ff.get f,b.call f (d.args.toList++a.toList) A' (match m with|.returning=>.none|.panicking v=>.hD v) st with
   |some _,q' (.ret _,e,st)=>mB C b c (match m,e with|.panicking _,.tC=>.returning|m,_=>m) st
   |_,_=>u'
  |_=>u'
def Fw(C:eN)(a:Tr C')(st:St):ResultVar->Option C'
 |.tmp t=>a.get t
 |.cell c t=>match a.get c with
  |some b=>match At C t b st with
   |some (.val v _)=>q' v
   |_=>u'
  |none=>u'
def se(C:eN)(a:Tr C')(st:St):n_ ResultVar->Option (n_ C')
 |[]=>q' []
 |r::c=>match Fw C a st r,se C a st c with
  |some v,q' b=>q' (v::b)
  |_,_=>u'
def xZ:n_ C'->C'
 |[v]=>v
 |a=>.tuple a.toArray
def finish(C:eN)(d:Rec)(e:FI)(f:Mode)(b:Fr)(a:eM)(st:St):Option (CR×eM×St):=
 match mB C d b.df f st with
 |none=>u'
 |some (.panicking v,st)=>q' (.fJ v,a,st)
 |some (.returning,st)=>match se C b.tm st e.B1 with
  |some c=>q' (.ret (xZ c),a,st)
  |none=>u'
def Au(C:eN)(e:Rec)(g:D')(c:n_ C')(f:Bool)(a:eM)(st:St):Option (CR×eM×St):=
 match C.ff.get g with
 |none=>u'
 |some b=>match aiv (j' c) b.nt with
  |false=>u'
  |true=>match code C e ⟨g,b.nt,u',f⟩ b.body ⟨gC 0 c .nil,[]⟩ a st with
   |some (.norm,d,a,st)=>finish C e b .returning d a st
   |some (.ret,d,a,st)=>finish C e b .returning d a st
   |some (.panic v,d,a,st)=>finish C e b (.panicking v) d a st
   |_=>u'
def o6:n_ Tmp->n_ C'->Nat->Tr C'->Option (Tr C')
 |[],[],_,a=>q' a
 |t::c,v::d,b,a=>match aiC t b with
  |true=>o6 c d b (a.set t v)
  |false=>u'
 |_,_,_,_=>u'
def wg(C:eN)(g:Rec)(c:Nat)(e:n_ C')(st:St):Option (CR×St):=
 match st.get c with
 |some (.loop a)=>
  match C.ff.get a.fn,o6 a.params e a.nt a.tm with
  |none,_=>u'
  |_,u'=>u'
  |some _,q' h=>
   let f:FC:=⟨a.fn,a.nt,q' c,B'⟩
   match code C g f a.assign ⟨h,[]⟩ .none st with
   |some (.norm,b,_,st)=>match st.get c with
    |some (.loop d)=>match d.state with
     |.ready=>match code C g f a.body b .none (st.put c (.loop {d with state:=.busy}))with
      |some (.norm,b,_,st)=>match st.get c,b.df with
       |some (.loop a),[]=>q' (.ret (.bool A'),st.put c (.loop {a with state:=.ready,pending:=u'}))
       |_,_=>u'
      |some (.ret,b,_,st)=>match st.get c,b.df with
       |some (.loop a),[]=>q' (.ret (.bool B'),st.put c (.loop {a with state:=.done,pending:=q' .ret}))
       |_,_=>u'
      |some (.exit id,b,_,st)=>match st.get c,b.df with
       |some (.loop a),[]=>q' (.ret (.bool B'),st.put c (.loop {a with state:=.done,pending:=q' (.exit id)}))
       |_,_=>u'
      |some (.panic v,b,_,st)=>match b.df with
       |[]=>q' (.fJ v,st)
       |_=>u'
      |none=>u'
     |_=>u'
    |_=>u'
   |_=>u'
 |_=>u'
def EN(v:C')(a:eM)(st:St):Option (CR×eM×St):=match v with
 |.agg ⟨[b,.iface t .nilIface]⟩=>q' (.ret (.tuple ⟨[b,.iface t (.pointer (q' ⟨st.n,0,u'⟩))]⟩),a,{st with n:=st.n+1})
 |v=>q' (.ret v,a,st)
def kY(C:eN)(b:r3):Nat->Rec
 |0=>abJ
 |n+1=>{
   code:=λf c g d st=>code C (kY C b n) f c g d st
   call:=λh a e d st=>match e,b h a with
    |false,q' v=>EN v d st
    |_,_=>Au C (kY C b n) h a e d st
   round:=λi a st=>wg C (kY C b n) i a st}
def jT(a:n_ M')(b:Nat):Bool:=match nth a b with|some o=>hY o.op|none=>B'
def mm(a:n_ Nat)(d c:Nat):Bool:=match nth a d with|some b=>aiJ b c|none=>B'
def EO(a:n_ M')(b:n_ Nat):n_ Nat->Bool
 |[]=>A'
 |e::r=>(!(jT a e)||r.all λc=>mm b c e)&&EO a b r
def tmpsOf:n_ H'->n_ Tmp
 |[]=>[]
 |.tmp t::a=>t::tmpsOf a
 |_::a=>tmpsOf a
def sf(a:n_ M')(o:M'):n_ Tmp:=
 tmpsOf o.op.operands.toList++(match o.guard with
  |none=>[]
  |some (d,_)=>match nth a d with
   |some b=>match b.dst with
    |some c=>[c]
    |none=>[]
   |none=>[])
def TW(a:n_ M')(d:n_ Nat)(n:Nat):Bool:=
 (aiI n).all λf=>match nth a f with
  |none=>B'
  |some b=>hY b.op||(match b.dst with
   |none=>A'
   |some t=>(aiI n).all λe=>(match nth a e with
    |none=>B'
    |some c=> !((sf a c).any (aiu t))||mm d e f))
def LR(a:n_ M'):Bool:=
 let c:=vM a
 ((aiI (j' a)).all λd=>match nth a d with
  |none=>B'
  |some o=>o.after.toList.all λe=> !(Region.binds .any e)||aiC e.on d)&&
 ((aiI (j' a)).all λd=>match nth a d,nth c.bs d with
  |some o,q' b=>aiu b (rowOf c.bs o)
  |_,_=>B')&&
 aiv c.m (j' a)&&((aiI c.m).all λd=>c.order.any (aiu d))&&(c.order.all λd=>aiC d c.m)&&aiu (j' c.order) c.m&&
 EO a c.bs c.order&&TW a c.bs (j' a)&&Fv a c.bs (j' a) c.m
def codeOk:Code->Bool
 |.region _ c A'=>LR c.toList
 |.seq a b=>codeOk a&&codeOk b
 |.cond _ a b=>codeOk a&&codeOk b
 |.block _ b=>codeOk b
 |.loop b=>codeOk b
 |.rangeFunc _ _ a b=>codeOk a&&codeOk b
 |_=>A'
open Go.RowKit (Below)
def Rp(a:Nat):gj a 0=[]:=by cases a<;>rfl
def Vm:∀(a k' n m:Nat),n<=a->m<=k'->gj a n=gj k' m->n=m:=by
 intro a;induction a with
 |zero=>
  intro k' n m d b h;have:n=0:=om;subst this;exact KE
 |succ a c=>
  intro k' n m d b h;cases n with
  |zero=>
   exact KE
  |succ n=>
   cases m with
   |zero=>rw[Rp]at h;simp[gj]at h
   |succ m=>
    cases k' with
    |zero=>omega
    |succ k'=>
     simp only[gj,List.cons.injEq]at h;have f:=c k' (n/2) (m/2) om om h.2;have g:(n%2=0)↔(m%2=0):=by
      have e:=h.1;rw[aiF,Nat.beq_eq,Nat.beq_eq]at e;exact e
     omega
theorem YF{n a:Nat}(b:path n=path a):n=a:=Vm n a n a (aiE _) (aiE _) b
def sg{a:Type}(b:n_ Bool):jS b (Tr.nil:Tr a)=u':=by cases b<;>rfl
theorem Av{c:Type}(o:Option c):∀(a:n_ Bool) (t:Tr c),jS a (nP o a t)=o:=by
 intro a;induction a with
 |nil=>intro t;cases t<;>rfl
 |cons b a d=>intro t;cases t<;>cases b<;>simp[nP,jS,d]
theorem Ef{e:Type}(o:Option e):∀(d a:n_ Bool) (t:Tr e),d≠a->jS a (nP o d t)=jS a t:=by
 intro d;induction d with
 |nil=>
  intro a t f;cases a with
  |nil=>exact Y' rfl f
  |cons c a=>cases t<;>cases c<;>simp[nP,jS,sg]
 |cons b d i=>
  intro a t f;cases a with
  |nil=>cases t<;>cases b<;>simp[nP,jS]
  |cons c a=>
   have h:b=c->d≠a:=λj g=>f (by rw[j,g]);cases t<;>cases b<;>cases c<;>simp_all [nP,jS,sg]
theorem kt{a:Type}(t:Tr a)(n b:Nat)(o:Option a):(t.put n o).get b=if b=n then o else t.get b:=by
 all_goals grind [Tr.get,Tr.put,Av,Ef,YF]
theorem dx{a:Type}(t:Tr a)(n b:Nat)(v:a):(t.set n v).get b=if b=n then q' v else t.get b:=kt t n b (q' v)
theorem rl{a:Type}(n:Nat):(Tr.nil:Tr a).get n=u':=sg _
theorem cx{d:Type}:∀(b:n_ d) (a:Nat),nth b a=b[a]?:=by
 intro b;induction b with
 |nil=>intro a;rfl
 |cons e b c=>intro a;cases a<;>simp[nth,c]
theorem sh{d:Type}:∀(c:n_ d) (b:Nat) (t:Tr d) (a:Nat),(gC b c t).get a=if b<=a/\a<b+j' c then c[a-b]? else t.get a:=by
 intro c;induction c with
 |nil=>intro b t a;simp only[gC,aiN];rw[W' om]
 |cons f c e=>
  intro b t a;simp only[gC,e,dx,aiD];all_goals grind
structure Loc where
 b:Nat
 d:Nat
 es:Nat
 sz:Nat
abbrev Ren:=Nat->Option Loc
def Ren.le(ρ a:Ren):Prop:=∀b c,ρ b=q' c->a b=q' c
def Ren.le_refl(ρ:Ren):ρ.le ρ:=λ_ _ a=>a
def Ren.le.trans{d b c:Ren}(f:d.le b)(g:b.le c):d.le c:=λa e h=>g a e (f a e h)
mutual
inductive dA (ρ:Ren):C'->C'->Prop
 |bool (b:Bool):dA ρ (.bool b) (.bool b)
 |int (k:E') (n:Int):dA ρ (.int k n) (.int k n)
 |string (s:ByteArray):dA ρ (.string s) (.string s)
 |Rq:dA ρ (.pointer u') (.pointer u')
 |ptr {b o:Nat} {l:Loc} (h:ρ b=q' l):dA ρ (.pointer (q' ⟨b,o,u'⟩)) (.pointer (q' ⟨l.b,l.d+o,u'⟩))
 |nS:dA ρ (.slice u' 0 0) (.slice u' 0 0)
 |mc (a a':Addr):dA ρ (.slice (q' a) 0 0) (.slice (q' a') 0 0)
 |slice {b o len cap aev:Nat} {l:Loc} (h:ρ b=q' l) (hc:cap<=aev) (hb:l.d+o+aev*l.es<=l.sz):
   dA ρ (.slice (q' ⟨b,o,u'⟩) len cap) (.slice (q' ⟨l.b,l.d+o,u'⟩) len aev)
 |Rr:dA ρ (.map u') (.map u')
 |map {r:Nat} {l:Loc} (h:ρ r=q' l):dA ρ (.map (q' r)) (.map (q' l.b))
 |func (f:D') {a a' c c':Array C'} (h1:du ρ a.toList a'.toList) (h2:du ρ c.toList c'.toList):dA ρ (.func (.func f) a c) (.func (.func f) a' c')
 |yield {r:Nat} {l:Loc} {a a' c c':Array C'} (h:ρ r=q' l) (h1:du ρ a.toList a'.toList) (h2:du ρ c.toList c'.toList):
   dA ρ (.func (.yield r) a c) (.func (.yield l.b) a' c')
 |nilFunc:dA ρ .nilFunc .nilFunc
 |nilIface:dA ρ .nilIface .nilIface
 |iface (t:F') {v v':C'} (h:dA ρ v v'):dA ρ (.iface t v) (.iface t v')
 |agg {a a':Array C'} (h:du ρ a.toList a'.toList):dA ρ (.agg a) (.agg a')
 |tuple {a a':Array C'} (h:du ρ a.toList a'.toList):dA ρ (.tuple a) (.tuple a')
inductive du (ρ:Ren):List C'->List C'->Prop
 |nil:du ρ [] []
 |cons {v v':C'} {l l':List C'} (h:dA ρ v v') (t:du ρ l l'):du ρ (v::l) (v'::l')
end
mutual
def dA.mono{ρ dM:Ren}(hle:ρ.le dM):∀{v v':C'},dA ρ v v'->dA dM v v'
 |_,_,.bool b=>.bool b
 |_,_,.int k n=>.int k n
 |_,_,.string s=>.string s
 |_,_,.Rq=>.Rq
 |_,_,.ptr h=>.ptr (hle _ _ h)
 |_,_,.nS=>.nS
 |_,_,.mc a a'=>.mc a a'
 |_,_,.slice h hc hb=>.slice (hle _ _ h) hc hb
 |_,_,.Rr=>.Rr
 |_,_,.map h=>.map (hle _ _ h)
 |_,_,.func f h1 h2=>.func f (du.mono hle h1) (du.mono hle h2)
 |_,_,.yield h h1 h2=>.yield (hle _ _ h) (du.mono hle h1) (du.mono hle h2)
 |_,_,.nilFunc=>.nilFunc
 |_,_,.nilIface=>.nilIface
 |_,_,.iface t h=>.iface t (dA.mono hle h)
 |_,_,.agg h=>.agg (du.mono hle h)
 |_,_,.tuple h=>.tuple (du.mono hle h)
def du.mono{ρ dM:Ren}(hle:ρ.le dM):∀{l l':n_ C'},du ρ l l'->du dM l l'
 |_,_,.nil=>.nil
 |_,_,.cons h t=>.cons (dA.mono hle h) (du.mono hle t)
end
variable{E W:n_ C'}
section vs
variable{ρ:Ren}
def du.len(a:du ρ E W):j' E=j' W:=by
 induction E generalizing W with
 |nil=>cases a;rfl
 |cons v E b=>cases a with|cons a t=>simp[b t]
def du.append{f a c b:n_ C'}(d:du ρ f a)(g:du ρ c b):du ρ (f++c) (a++b):=by
 induction f generalizing a with
 |nil=>cases d;exact g
 |cons v h e=>cases d with|cons d t=>exact .cons d (e t)
theorem du.get(c:du ρ E W){i:Nat}{v:C'}(b:E[i]?=q' v):∃a,W[i]?=q' a/\dA ρ v a:=by
 induction E generalizing W i with
 |nil=>simp at b
 |cons e E d=>
  cases c with
  |cons c t=>
   grind
def Aw(b:j' E=j' W)(h:∀(c:Nat) (v:C'),E[c]?=q' v->∃a,W[c]?=q' a/\dA ρ v a):du ρ E W:=by
 induction E generalizing W with
 |nil=>cases W with|nil=>exact .nil|cons _ _=>simp at b
 |cons i E f=>
  cases W with
  |nil=>simp at b
  |cons j W=>
   have⟨a,d,e⟩:=h 0 i rfl;simp at d;subst d;refine .cons e (f (by simpa using b) λc v g=>?_);obtain⟨a,d,e⟩:=h (c+1) v (by simpa using g);exact⟨a,by simpa using d,e⟩
def du.take{c a:n_ C'}(b:du ρ c a)(n:Nat):du ρ (c.take n) (a.take n):=by
 induction c generalizing a n with
 |nil=>cases b;cases n<;>exact .nil
 |cons v c d=>cases b with|cons b t=>cases n with
  |zero=>exact .nil
  |succ n=>exact .cons b (d t n)
def du.drop{c a:n_ C'}(b:du ρ c a)(n:Nat):du ρ (c.drop n) (a.drop n):=by
 induction c generalizing a n with
 |nil=>cases b;cases n<;>exact .nil
 |cons v c d=>cases b with|cons b t=>cases n with
  |zero=>exact .cons b t
  |succ n=>exact d t n
def dA.cells{v a:C'}(b:dA ρ v a):du ρ (cellsOf v) a.cells.toList:=by
 cases b<;>first|exact .cons (by constructor<;>assumption) .nil|skip
 all_goals first|assumption|exact .cons (.mc _ _) .nil
def dA.gM{v a:C'}(b:dA ρ v a):gM v=gM a:=by
 cases b<;>rfl
end vs
def pP(ρ:Ren)(c:Nat)(b:Tr C')(e:Array C'):Prop:=
 e.size=c/\∀d v,b.get d=q' v->∃a,e[d]?=q' a/\dA ρ v a
def oH(ρ:Ren):n_ MapEntry->n_ MapEntry->Prop
 |[],[]=>True
 |e::c,a::b=>dA ρ e.key a.key/\dA ρ e.val a.val/\e.born=a.born/\oH ρ c b
 |_,_=>False
structure abK (ρ:Ren) (al:KX) (lo:Loop):Prop where
 state:lo.state=al.state
 pending:lo.pending=al.pending
 fn:lo.fn=al.fn
 tm:pP ρ al.nt al.tm lo.tmps
 params:lo.params.toList=al.params
 assign:lo.assign=al.assign
 body:lo.body=al.body
 defers:∃l,ρ al.defers=q' l/\lo.defers=l.b
 ok:codeOk al.assign=A'/\codeOk al.body=A'
structure Vn (ρ:Ren) (l:Loc) (c:List C') (es:Nat) (c':Array C') (lo hi:Nat):Prop where
 es:l.es=es
 size:c'.size=l.sz
 fits:l.d+j' c<=l.sz
 cell:∀(i:Nat) (v:C'),c[i]?=q' v->∃v',c'[l.d+i]?=q' v'/\dA ρ v v'
 Rs:∀i,i<l.sz->¬(lo<=i/\i<hi)
def Ax(ρ:Ren)(i:Loc)(o:gJ)(co:Option Obj):Prop:=
 match o with
 |.cells c es _ _=>∃e d lo hi,co=q' (.cells e d (lo,hi))/\Vn ρ i c es e lo hi
 |.map es a=>∃b,co=q' (.map b a)/\oH ρ es b.toList
 |.loop f=>∃lo,co=q' (.loop lo)/\abK ρ f lo
 |.fP t=>co=q' (.deferred (if t then u' else q' []))
 |.iter g h=>co=q' (.stringIter g h)
 |.dead=>True
def Ay(o d:gJ)(g a:Loc):Prop:=
 match o,d with
 |.cells _ _ e f,.cells _ _ c b=>e=c/\g.d+b=a.d+f
 |.dead,_=>True
 |_,.dead=>True
 |_,_=>False
def wh(st:St)(b c:Nat):Prop:=
 match st.fm.get c with
 |none=>b=c
 |some a=>b∈a
structure WF (st:St):Prop where
 lt:∀b o,st.get b=q' o->b<st.n
 et:∀b c e f p,st.get b=q' (.cells c e f p)->f<st.n/\wh st b f
 TX:∀f ms,st.fm.get f=q' ms->f<st.n
structure dQ (w0:G') (N0:Nat) (G:Nat->Prop) (ρ:Ren) (st:St) (w:G'):Prop where
 wf:WF st
 below:Below N0 w0 w
 K1:N0<=w.heap.size
 Q8:∀b,G b->ρ b=u'/\b<st.n
 Af:∀b l,ρ b=q' l->b<st.n/\N0<=l.b/\l.b<w.heap.size
 obj:∀b l o,ρ b=q' l->st.get b=q' o->Ax ρ l o w.heap[l.b]?
 sep:∀b b' l l' o o',ρ b=q' l->ρ b'=q' l'->l.b=l'.b->st.get b=q' o->st.get b'=q' o'->b≠b'->Ay o o' l l'
def pP.mono{ρ a:Ren}(i:ρ.le a){c:Nat}{b:Tr C'}{g:Array C'}(f:pP ρ c b g):pP a c b g:=
 ⟨f.1,λj v d=>let⟨e,k,h⟩:=f.2 j v d;⟨e,k,h.mono i⟩⟩
def oH.mono{ρ a:Ren}(d:ρ.le a):∀{e b:n_ MapEntry},oH ρ e b->oH a e b
 |[],[],_=>trivial
 |_::_,_::_,⟨c,v,g,f⟩=>⟨c.mono d,v.mono d,g,oH.mono d f⟩
 |[],_::_,c=>c.elim
 |_::_,[],c=>c.elim
def abK.mono{ρ b:Ren}(d:ρ.le b){c:KX}{lo:Loop}(a:abK ρ c lo):abK b c lo:=
 ⟨a.state,a.pending,a.fn,a.tm.mono d,a.params,a.assign,a.body,let⟨g,f,e⟩:=a.defers;⟨g,d _ _ f,e⟩,a.ok⟩
def Vn.mono{ρ a:Ren}(i:ρ.le a){g:Loc}{c:n_ C'}{es:Nat}{d:Array C'}{lo hi:Nat}(b:Vn ρ g c es d lo hi):Vn a g c es d lo hi:=
 ⟨b.es,b.size,b.fits,λj v e=>let⟨f,k,h⟩:=b.cell j v e;⟨f,k,h.mono i⟩,b.Rs⟩
def Ax.mono{ρ a:Ren}(i:ρ.le a){k:Loc}{o:gJ}{co:Option Obj}(e:Ax ρ k o co):Ax a k o co:=by
 cases o with
 |cells c es n m=>have⟨j,b,lo,hi,f,d⟩:=e;exact⟨j,b,lo,hi,f,d.mono i⟩
 |map es h=>have⟨g,f,d⟩:=e;exact⟨g,f,d.mono i⟩
 |loop l=>have⟨lo,f,d⟩:=e;exact⟨lo,f,d.mono i⟩
 |fP t=>exact e
 |iter s m=>exact e
 |dead=>trivial
def Ren.add(ρ:Ren)(b:Nat)(c:Loc):Ren:=λa=>if a=b then q' c else ρ a
theorem fb{ρ:Ren}{b:Nat}{l:Loc}(d:ρ b=u'):ρ.le (ρ.add b l):=by
 intro c a e;unfold Ren.add;all_goals grind
theorem dG(ρ:Ren)(b:Nat)(a:Loc):(ρ.add b a) b=q' a:=X' rfl
theorem eT(ρ:Ren){b a:Nat}(d:Loc)(c:a≠b):(ρ.add b d) a=ρ a:=W' c
theorem dT(st:St)(o:gJ)(b:Nat):(st.new o).get b=if b=st.n then q' o else st.get b:=dx _ _ _ _
theorem dH(st:St)(a:Nat)(o:gJ)(b:Nat):(st.put a o).get b=if b=a then q' o else st.get b:=dx _ _ _ _
def wi(st:St):gJ->Prop
 |.cells _ _ a _=>a=st.n
 |_=>True
def WF.new{st:St}(h:WF st){o:gJ}(j:wi st o):WF (st.new o):=by
 have g:st.fm.get st.n=u':=by
  cases k:st.fm.get st.n with
  |none=>rfl
  |some e=>exact Y' (h.TX _ _ k) (Nat.lt_irrefl _)
 refine⟨λb l a=>?_,λb c k f m a=>?_,λf e i=>aiL (h.TX f e i)⟩
 ·rw[dT]at a;show b<st.n+1;by_cases d:b=st.n
  ·omega
  rw[W' d]at a;exact aiL (h.lt _ _ a)
 rw[dT]at a;show f<st.n+1/\wh (st.new o) b f;by_cases d:b=st.n
 ·rw[X' d]at a;cases a;have:f=st.n:=j;subst this;refine⟨Nat.lt_succ_self _,?_⟩;show match st.fm.get st.n with|none=>b=st.n|some e=>b∈e
  rw[g];exact d
 rw[W' d]at a;have:=h.et _ _ _ _ _ a;exact⟨aiL this.1,this.2⟩
variable{O:Program} {T:F'} {S:Nat×Nat}
section
variable{w0:G'} {N0:Nat} {G:Nat->Prop} {ρ:Ren} {st:St} {w:G'}
def dQ.jr(b:dQ w0 N0 G ρ st w):ρ st.n=u':=by
 cases a:ρ st.n with
 |none=>rfl
 |some c=>exact Y' (b.Af _ _ a).1 (Nat.lt_irrefl _)
theorem dQ.new(g:dQ w0 N0 G ρ st w){o:gJ}{co:Obj}{l:Loc}(K:l.b=w.heap.size)(u:wi st o)(L:Ax (ρ.add st.n l) l o (q' co)):
  dQ w0 N0 G (ρ.add st.n l) (st.new o) {w with heap:=w.heap.push co}:=by
 have r:=fb (l:=l) g.jr;have c:∀p,p<w.heap.size->(w.heap.push co)[p]?=w.heap[p]?:=λp t=>by
  grind
 refine⟨g.wf.new u,?_,?_,?_,?_,?_,?_⟩
 ·refine g.below.trans ⟨Z,Z,Z,by simp,λp t=>c p (by have:=g.K1;omega)⟩
 ·show N0<=(w.heap.push co).size;have:=g.K1;simp;omega
 ·intro z x;have:=g.Q8 z x;exact⟨by rw[eT _ _ om];exact this.1,aiL this.2⟩
 ·intro b i a;show b<st.n+1/\N0<=i.b/\i.b<(w.heap.push co).size;by_cases s:b=st.n
  ·subst s;rw[dG]at a;cases a;have:=g.K1;simp;omega
  rw[eT _ _ s]at a;have:=g.Af _ _ a;simp;omega
 ·intro b i v a k;show Ax _ i v (w.heap.push co)[i.b]?;rw[dT]at k;by_cases s:b=st.n
  ·grind [dG]
  rw[eT _ _ s]at a;rw[W' s]at k;rw[c _ (g.Af _ _ a).2.2];exact(g.obj _ _ _ a k).mono r
 intro b q N P D C e d y n m j;rw[dT]at n m;by_cases h:b=st.n
 ·by_cases f:q=st.n
  ·exact Y' (h.trans f.symm) j
  subst h;rw[dG]at e;cases e;rw[eT _ _ f]at d;have:=(g.Af _ _ d).2.2;omega
 by_cases f:q=st.n
 ·subst f;rw[dG]at d;cases d;rw[eT _ _ h]at e;have:=(g.Af _ _ e).2.2;omega
 rw[eT _ _ h]at e;rw[eT _ _ f]at d;rw[W' h]at n;rw[W' f]at m;exact g.sep _ _ _ _ _ _ e d y n m j
def dQ.YG(a:dQ w0 N0 G ρ st w){d:G'}(c:Below w.heap.size w d):dQ w0 N0 G ρ st d:=by
 refine⟨a.wf,a.below.trans (c.mono a.K1),aiY a.K1 c.size,a.Q8,λb g e=>?_,λb g o e f=>?_,a.sep⟩
 ·have:=a.Af _ _ e;have:=c.size;omega
 rw[c.block _ (a.Af _ _ e).2.2];exact a.obj _ _ _ e f
def qH{b o n:Nat}{c:n_ C'}(d:hX st b o n=q' c):
  ∃a es f h,st.get b=q' (.cells a es f h)/\o+n<=j' a/\c=(a.drop o).take n:=by
 unfold hX at d;split at d
 ·rename_i a es f h g;split at d
  ·rename_i e;refine⟨a,es,f,h,g,?_,?_⟩
   ·exact ais e
   simpa using d.symm
  cases d
 cases d
def iJ{b o n:Nat}{c:n_ C'}(d:hX st b o n=q' c):j' c=n:=by
 obtain⟨e,es,f,g,_,a,rfl⟩:=qH d;simp;omega
def run_load{w:G'}{a:Addr}{v:C'}(b:w.cell? a=q' v):(load a).run O w=.ok v w:=by
 simp[load,Sem.run,b]
def ct{a c:Type}{w b:G'}{d:Sem a}{f:a}(e:a->Sem c)(g:d.run O w=.ok f b):(d>>=e).run O w=(e f).run O b:=by
 simp_all
theorem cell_of{w:G'}{b:Nat}{c:Array C'}(d:w.heap[b]?=q' (.cells c T S))(a:Nat):w.cell? ⟨b,a,u'⟩=c[a]?:=by
 simp[World.cell?,d]
theorem pQ(b o n:Nat):(⟨b,o,u'⟩:Addr).add n=⟨b,o+n,u'⟩:=by
 unfold Addr.add;split
 ·rename_i a;subst a;rfl
 rfl
theorem run_loadCellsFrom{P:Program}{w:G'}{b o:Nat}{c:Array C'}(i:w.heap[b]?=q' (.cells c T S)):
  ∀(n d:Nat) (a:Array C'),o+d+n<=c.size->(loadCellsFrom ⟨b,o,u'⟩ d n a).run P w=.ok ⟨a.toList++(c.toList.drop (o+d)).take n⟩ w:=by
 intro n;induction n with
 |zero=>intro d a _;simp[loadCellsFrom,pure]
 |succ n f=>
  intro d a h;have e:o+d<c.size:=om;have g:w.cell? ((⟨b,o,u'⟩:Addr).add d)=q' c[o+d]:=by rw[pQ,cell_of i];exact aiT e
  rw[loadCellsFrom,ct _ (run_load g),f (d+1) (a.push c[o+d]) om]
  grind [List.drop_eq_getElem_cons]
def run_loadCells{w:G'}{b o n:Nat}{c:Array C'}(d:w.heap[b]?=q' (.cells c T S))(a:o+n<=c.size):
  (loadCells ⟨b,o,u'⟩ n).run O w=.ok ⟨(c.toList.drop o).take n⟩ w:=by
 have:=run_loadCellsFrom (P:=O) (o:=o) d n 0 #[] om;simpa [loadCells]using this
theorem Vn.slice{l:Loc}{c:n_ C'}{es:Nat}{d:Array C'}{lo hi:Nat}(e:Vn ρ l c es d lo hi){o n:Nat}(f:o+n<=j' c):
  du ρ ((c.drop o).take n) ((d.toList.drop (l.d+o)).take n):=by
 have g:=e.size;have h:=e.fits;refine Aw (by simp;omega) λk v a=>?_;rw[ai2]at a⊢;split at a
 ·rename_i b;rw[X' b];rw[ai3]at a⊢;have⟨i,m,j⟩:=e.cell _ _ a
  grind
 cases a
def dQ.read(p:dQ w0 N0 G ρ st w){b o n:Nat}{c:n_ C'}{j:Loc}(h:ρ b=q' j)(f:hX st b o n=q' c)(r:Program):
  ∃a,(loadCells ⟨j.b,j.d+o,u'⟩ n).run r w=.ok a w/\du ρ c a.toList:=by
 obtain⟨q,es,s,t,g,d,rfl⟩:=qH f;have⟨a,i,lo,hi,l,e⟩:=p.obj _ _ _ h g;have k:=e.size;have m:=e.fits;refine⟨_,run_loadCells l om,?_⟩;exact e.slice d
theorem nT:∀(c:n_ C') (n:Nat) (a:n_ C'),j' (eh c n a)=j' c:=by
 intro c;induction c with
 |nil=>intro n a;cases a<;>rfl
 |cons d c b=>
  intro n a;cases a with
  |nil=>rfl
  |cons v a=>cases n<;>simp[eh,b]
def pR:∀(c:n_ C') (n:Nat) (a:n_ C') (b:Nat),n+j' a<=j' c->(eh c n a)[b]?=if n<=b/\b<n+j' a then a[b-n]? else c[b]?:=by
 intro c;induction c with
 |nil=>
  intro n a b e;cases a with
  |nil=>simp only[eh,aiN];rw[W' om]
  |cons v a=>simp at e
 |cons f c d=>
  intro n a b e;cases a with
  |nil=>simp only[eh,aiN];rw[W' om]
  |cons v a=>
   simp only[aiD]at e⊢;cases n with
   |zero=>
    cases b with
    |zero=>simp[eh]
    |succ b=>
     simp only[eh,aiV];rw[d 0 a b om];by_cases hi:b<j' a
     ·rw[X' om,X' om];simp
     rw[W' om,W' om]
   |succ n=>
    cases b with
    |zero=>simp[eh]
    |succ b=>
     simp only[eh,aiV];rw[d n (v::a) b (by simp;omega)];simp only[aiD];by_cases hi:n<=b/\b<n+(j' a+1)
     ·rw[X' hi,X' om,show b+1-(n+1)=b-n from by omega]
     rw[W' hi,W' om]
structure aew (w w':G') (b:Nat) (c:Array C') (e:F') (fz:Nat×Nat) (o:Nat) (vs:List C'):Prop where
 os:w'.os=w.os
 tape:w'.tape=w.tape
 output:w'.output=w.output
 size:w'.heap.size=w.heap.size
 other:∀k,k≠b->w'.heap[k]?=w.heap[k]?
 here:∃c',w'.heap[b]?=q' (.cells c' e fz)/\c'.size=c.size/\∀i:Nat,c'[i]?=if o<=i/\i<o+j' vs then vs[i-o]? else c[i]?
theorem Rt{P:Program}{w:G'}{b o:Nat}{v:C'}{c:Array C'}{lo hi:Nat}(g:w.heap[b]?=q' (.cells c T (lo,hi)))(d:o<c.size)(h:¬(lo<=o/\o<hi)) 
  (e:gM v=A'):(store ⟨b,o,u'⟩ v).run P w=.ok () (w.setCell ⟨b,o,u'⟩ v):=by
 have f:w.cell? ⟨b,o,u'⟩=q' c[o]:=by rw[cell_of g];exact aiT d
 have a:w.frozen? ⟨b,o,u'⟩=B':=by
  simp only[World.frozen?,g]
  grind
 cases v<;>first|(simp[gM]at e;done)|simp[store,Sem.run,f,a]
def Ru{w:G'}{b o:Nat}{v:C'}{c:Array C'}(e:w.heap[b]?=q' (.cells c T S)):
  (w.setCell ⟨b,o,u'⟩ v).heap[b]?=q' (.cells (c.setIfInBounds o v) T S)/\(∀a,a≠b->(w.setCell ⟨b,o,u'⟩ v).heap[a]?=w.heap[a]?)/\(w.setCell ⟨b,o,u'⟩ v).heap.size=w.heap.size:=by
 refine⟨?_,λa d=>Below.heap_setCell _ _ _ _ d,by simp[World.setCell]⟩;simp only[World.setCell,ai0,e];simp
theorem wj{P:Program}:∀(d:n_ C') (w:G') (b o f:Nat) (c:Array C') (m:F') (lo hi:Nat),w.heap[b]?=q' (.cells c m (lo,hi))->o+f+j' d<=c.size->
  (∀h,o+f<=h->h<o+f+j' d->¬(lo<=h/\h<hi))->(∀v∈d,gM v=A')->
  ∃g,(storeCells ⟨b,o,u'⟩ d f).run P w=.ok () g/\aew w g b c m (lo,hi) (o+f) d:=by
 intro d;induction d with
 |nil=>
  intro w b o f c m lo hi n _ _ _;refine⟨w,by simp[storeCells,pure],Z,Z,Z,Z,λ_ _=>Z,c,n,Z,λh=>?_⟩
  grind [aiN]
 |cons v d z=>
  intro w b o f c m lo hi n l a i;simp only[aiD]at l a;have k:=Rt (P:=P) (v:=v) n (o:=o+f) om (a _ om om) (i v sm);have⟨t,q,x⟩:=Ru (o:=o+f) (v:=v) n;obtain⟨g,s,e⟩:=z (w.setCell ⟨b,o+f,u'⟩ v) b o (f+1) _ m lo hi t (by simp;omega) (λh k D=>a h om om) (λG u=>i G (by simp[u]));refine⟨g,?_,?_⟩
  ·rw[storeCells,pQ,ct _ k];exact s
  have⟨p,y,r,K⟩:=e.here;refine⟨e.os,e.tape,e.output,e.size.trans x,λC j=>(e.other C j).trans (q C j),p,y,by simpa using r,λh=>?_⟩;all_goals grind
end
theorem wk(b lo hi:Nat):∀(a:n_ Nat) (d:Tr gJ),
  (∀e,(gm b lo hi a d).1.get e=d.get e∨((gm b lo hi a d).1.get e=q' .dead/\e≠b/\∃c i g f,d.get e=q' (.cells c i g f)/\overlaps f (j' c) lo hi=A'))/\
  (∀e,e∈a->e≠b->∀c i g f,(gm b lo hi a d).1.get e=q' (.cells c i g f)->overlaps f (j' c) lo hi=B')/\
  (∀e,e∈a->e∈(gm b lo hi a d).2∨(gm b lo hi a d).1.get e=q' .dead):=by
 intro a;induction a with
 |nil=>intro d;exact⟨λ_=>.inl rfl,λ_ h=>by simp at h,λ_ h=>by simp at h⟩
 |cons k a j=>
  grind [gm,dx,aiU.1,ait,aiG]
variable{J:Nat}
section
variable{st:St} {et b lo hi:Nat}
def iK:(st.kill et b lo hi).n=st.n:=by
 unfold St.kill;split<;>rfl
theorem wl(a:Nat):(st.kill et b lo hi).get a=st.get a∨((st.kill et b lo hi).get a=q' .dead/\a≠b/\∃c f e d,st.get a=q' (.cells c f e d)/\overlaps d (j' c) lo hi=A'):=by
 unfold St.kill;split
 ·exact .inl Z
 exact(wk b lo hi _ st.hp).1 a
theorem LS:(st.kill et b lo hi).get b=st.get b:=by
 all_goals grind [wl]
def y4{a:n_ Nat}(e:st.fm.get et=q' a)(h:J∈a)(f:J≠b){c:n_ C'}{j i g:Nat} 
  (d:(st.kill et b lo hi).get J=q' (.cells c j i g)):overlaps g (j' c) lo hi=B':=by
 unfold St.kill at d;rw[e]at d;exact(wk b lo hi a st.hp).2.1 J h f c j i g d
theorem nl{o:gJ}(a:(st.kill et b lo hi).get J=q' o):o=.dead∨st.get J=q' o:=by
 all_goals grind [wl]
def iw(a:st.fm.get et=u'):st.kill et b lo hi=st:=by
 unfold St.kill;rw[a]
def js{a:n_ Nat}(c:st.fm.get et=q' a):st.kill et b lo hi={st with hp:=(gm b lo hi a st.hp).1,fm:=st.fm.set et (gm b lo hi a st.hp).2}:=by
 unfold St.kill;rw[c]
def WF.kill(j:WF st):WF (st.kill et b lo hi):=by
 cases a:st.fm.get et with
 |none=>rw[iw a];exact j
 |some k=>
  refine⟨λn o f=>?_,λn c m l q f=>?_,λl p e=>?_⟩
  ·rw[iK];rcases wl (st:=st) (et:=et) (b:=b) (lo:=lo) (hi:=hi) n with m|⟨_,_,c,h,l,q,m,_⟩
   ·exact j.lt _ _ (m▸f)
   exact j.lt _ _ m
  ·rcases nl f with h|h
   ·cases h
   have e:=j.et _ _ _ _ _ h;refine⟨by rw[iK];exact e.1,?_⟩;have g:=e.2;unfold wh at g⊢;rw[js a]at f⊢;simp only[dx];by_cases d:l=et
   ·subst d;rw[X' rfl];rw[a]at g;rcases(wk b lo hi k st.hp).2.2 n g with h1|h1
    ·exact h1
    exfalso;have i:(gm b lo hi k st.hp).1.get n=q' (.cells c m l q):=f;rw[h1]at i;cases i
   rw[W' d];exact g
  rw[iK];rw[js a]at e;simp only[dx]at e;by_cases d:l=et
  ·subst d;exact j.TX _ _ a
  rw[W' d]at e;exact j.TX _ _ e
theorem wo{fo a lo hi:Nat}(b:overlaps fo a lo hi=B'):hi<=fo∨fo+a<=lo:=by
 all_goals grind [overlaps,aiH.mpr,aiK]
def WF.EP(e:WF st){c h:n_ C'}{i j:Nat}(f:st.get b=q' (.cells c J i j)):WF (st.put b (.cells h J i j)):=by
 refine⟨λg o a=>?_,λg m l f1 k a=>?_,e.TX⟩
 ·rw[dH]at a;by_cases d:g=b
  ·subst d;exact e.lt _ _ f
  rw[W' d]at a;exact e.lt _ _ a
 rw[dH]at a;by_cases d:g=b
 ·subst d;rw[X' rfl]at a;cases a;exact e.et _ _ _ _ _ f
 rw[W' d]at a;exact e.et _ _ _ _ _ a
end
section
variable{w0:G'} {N0:Nat} {G:Nat->Prop} {ρ:Ren} {st:St} {w:G'}
def du.TY(c:du ρ E W)(b:E.all gM=A'):∀v∈W,gM v=A':=by
 induction E generalizing W with
 |nil=>cases c;intro v a;simp at a
 |cons e E d=>
  cases c with
  |cons c t=>
   simp only[aiW,aiw]at b;intro v a;rcases aiU.1 a with rfl|a
   ·rw[<-c.gM];exact b.1
   exact d t b.2 v a
def mn{b o:Nat}{dy:St}(d:ic st b o E=q' dy):
  ∃c es f e,st.get b=q' (.cells c es f e)/\o+j' E<=j' c/\E.all gM=A'/\
   dy=(st.put b (.cells (eh c o E) es f e)).kill f b (e+o) (e+o+j' E):=by
 unfold ic at d;split at d
 ·rename_i c es f e g;split at d
  ·rename_i a;rw[aiw]at a;exact⟨c,es,f,e,g,ais a.1,a.2,by simpa using d.symm⟩
  cases d
 cases d
theorem dQ.write(l:dQ w0 N0 G ρ st w){b o:Nat}{dy:St}{M:Loc}(t:ρ b=q' M)(ai:ic st b o E=q' dy)(H:du ρ E W)(ao:Program):
  ∃s,(storeCells ⟨M.b,M.d+o,u'⟩ W).run ao w=.ok () s/\dQ w0 N0 G ρ dy s/\dy.n=st.n:=by
 obtain⟨c,es,ad,aA,p,U,T,rfl⟩:=mn ai;have⟨c',i,lo,hi,J,I⟩:=l.obj _ _ _ t p;have ag:=H.len;have ar:=I.size;have V:=I.fits;have⟨s,ak,k⟩:=wj (P:=ao) W w M.b (M.d+o) 0 c' i lo hi J om (λay h1 h2=>I.Rs ay om) (H.TY T);have⟨K,S,ah,am⟩:=k.here;have ac:=l.Af _ _ t;have al:=l.K1;have Y:=k.size;refine⟨s,ak,?_,by rw[iK];rfl⟩;refine⟨(l.wf.EP p).kill,?_,om,λC d=>by rw[iK];exact l.Q8 C d,?_,?_,?_⟩
 ·exact l.below.trans ⟨k.os,k.tape,k.output,om,λC d=>k.other C om⟩
 ·intro C R d;rw[iK];have:=l.Af _ _ d;exact⟨this.1,this.2.1,om⟩
 ·intro C R u d N;rcases nl N with rfl|a
  ·trivial
  rw[dH]at a;by_cases e:C=b
  ·subst e;rw[X' rfl]at a;cases a;rw[t]at d;cases d;refine⟨K,i,lo,hi,S,I.es,om,by rw[nT];exact V,λX v hi'=>?_,I.Rs⟩;rw[pR _ _ _ _ U]at hi';rw[am];by_cases h:o<=X/\X<o+j' E
   ·rw[X' h]at hi';have⟨O,x,z⟩:=H.get hi'
    grind
   rw[W' h]at hi';have F:X<j' c:=by
    all_goals grind [aiK]
   have⟨O,x,z⟩:=I.cell _ _ hi'
   grind
  rw[W' e]at a;by_cases m:R.b=M.b
  ·have L:=l.sep _ _ _ _ _ _ t d m.symm p a (λJ=>e J.symm);cases u with
   |dead=>trivial
   |cells af aw aC ax=>
    obtain⟨rfl,an⟩:=L;have f:=(l.wf.et _ _ _ _ _ a).2;have g:=(l.wf.et _ _ _ _ _ p).2;unfold wh at f g;cases q:st.fm.get ad with
    |none=>rw[q]at f g;exact Y' (f.trans g.symm) e
    |some ab=>
     rw[q]at f;have P:(st.put b (.cells (eh c o E) es ad aA)).fm.get ad=q' ab:=q;have aq:=wo (y4 P f e N);have⟨av,aa,au,ap,y,r⟩:=l.obj _ _ _ d a;rw[m,J]at y;cases y;rw[m];refine⟨K,i,lo,hi,S,r.es,by rw[ah];exact r.size,r.fits,λX v hi'=>?_,r.Rs⟩;have F:X<j' af:=by
      all_goals grind [aiK]
     have⟨O,x,z⟩:=r.cell _ _ hi'
     grind
   |_=>exact L.elim
  rw[k.other _ m];exact l.obj _ _ _ d a
 intro C aB R az u Q d B A aj ae n;rcases nl aj with rfl|h1
 ·cases Q<;>trivial
 rcases nl ae with rfl|h2
 ·cases u<;>trivial
 rw[dH]at h1 h2;by_cases e:C=b
 ·subst e;rw[X' rfl]at h1;cases h1;rw[W' (λJ=>n J.symm)]at h2;have j:=l.sep _ _ _ _ _ _ d B A p h2 n;cases Q<;>exact j
 rw[W' e]at h1;by_cases D:aB=b
 ·subst D;rw[X' rfl]at h2;cases h2;have j:=l.sep _ _ _ _ _ _ d B A h1 p n;cases u<;>exact j
 rw[W' D]at h2;exact l.sep _ _ _ _ _ _ d B A h1 h2 n
end
section
variable{w0:G'} {N0:Nat} {G:Nat->Prop} {ρ:Ren} {st:St} {w:G'}
def Ay.symm{o a:gJ}{f b:Loc}(e:Ay o a f b):Ay a o b f:=by
 cases o<;>cases a<;>first|trivial|exact e|(have⟨d,c⟩:=e;exact⟨d.symm,c.symm⟩)
theorem dQ.extend(r:dQ w0 N0 G ρ st w){dy:St}{w':G'}{o:gJ}{l:Loc}(E:dy.n=st.n+1)(t:∀f,dy.get f=if f=st.n then q' o else st.get f)(u:WF dy) 
  (a:Below N0 w w') (R:N0<=l.b) (P:l.b<w'.heap.size)
  (q:∀f c i,ρ f=q' c->st.get f=q' i->Ax ρ c i w'.heap[c.b]?)
  (C:Ax (ρ.add st.n l) l o w'.heap[l.b]?)
  (v:∀f c i,ρ f=q' c->st.get f=q' i->c.b=l.b->Ay i o c l):
  dQ w0 N0 G (ρ.add st.n l) dy w':=by
 have y:=fb (l:=l) r.jr;have D:=r.K1;have N:=a.size;refine⟨u,r.below.trans a,om,λf K=>by have:=r.Q8 f K;exact⟨by rw[eT _ _ om];exact this.1,om⟩,?_,?_,?_⟩
 ·intro b L e;by_cases z:b=st.n
  ·grind [dG]
  rw[eT _ _ z]at e;have:=r.Af _ _ e;exact⟨om,om,om⟩
 ·intro b L B e j;rw[t]at j;by_cases z:b=st.n
  ·grind [dG]
  rw[eT _ _ z]at e;rw[W' z]at j;exact(q _ _ _ e j).mono y
 intro b s F H A V m k x h g p;rw[t]at h g;by_cases n:b=st.n
 ·by_cases d:s=st.n
  ·exact Y' (n.trans d.symm) p
  subst n;rw[dG]at m;cases m;rw[eT _ _ d]at k;rw[X' rfl]at h;cases h;rw[W' d]at g;exact(v _ _ _ k g x.symm).symm
 rw[eT _ _ n]at m;rw[W' n]at h;by_cases d:s=st.n
 ·grind [dG]
 rw[eT _ _ d]at k;rw[W' d]at g;exact r.sep _ _ _ _ _ _ m k x h g p
def dQ.weaken(c:dQ w0 N0 G ρ st w){dy:St}(h:dy.n=st.n)(a:∀i o,dy.get i=q' o->o=.dead∨st.get i=q' o)(e:WF dy):dQ w0 N0 G ρ dy w:=by
 refine⟨e,c.below,c.K1,λi q=>by rw[h];exact c.Q8 i q,λb t s=>by rw[h];exact c.Af b t s,λb t o s v=>?_,λb u t x o p l j r n k d=>?_⟩
 ·rcases a _ _ v with rfl|m
  ·trivial
  exact c.obj _ _ _ s m
 rcases a _ _ n with rfl|f
 ·cases p<;>trivial
 rcases a _ _ k with rfl|g
 ·cases o<;>trivial
 exact c.sep _ _ _ _ _ _ l j r f g d
theorem WF.YH(e:WF st){b:Nat}(f:b<st.n):WF (st.put b .dead):=by
 refine⟨λd o a=>?_,λd i h f1 g a=>?_,e.TX⟩
 ·rw[dH]at a;by_cases c:d=b
  ·subst c;exact f
  rw[W' c]at a;exact e.lt _ _ a
 rw[dH]at a;by_cases c:d=b
 ·grind
 rw[W' c]at a;exact e.et _ _ _ _ _ a
def grown(st:St)(es et fo b o len n:Nat)(c old xs:n_ C'):St:=
 let a:=st.kill et st.n (fo+o+len*es) (fo+o+(len+n)*es)
 let e:=match a.fm.get et with|some e=>e|none=>if aiv (j' c) (o+len*es)then [b]else []
 let d:=if aiv (j' c) (o+len*es)then a else a.put b .dead
 {hp:=d.hp.set st.n (.cells (old++xs) es et (fo+o)),n:=st.n+1,fm:=d.fm.set et (st.n::e)}
def jZ(st:St)(es et fo b o len n:Nat)(c:n_ C'):St:=
 let a:=st.kill et st.n (fo+o+len*es) (fo+o+(len+n)*es)
 if aiv (j' c) (o+len*es)then a else a.put b .dead
variable{es et fo b o len n:Nat} {c old xs:n_ C'}
def rm:(jZ st es et fo b o len n c).n=st.n:=by
 unfold jZ;dsimp only;split
 ·exact iK
 exact iK (st:=st)
theorem mL{a:gJ}(d:(jZ st es et fo b o len n c).get J=q' a):a=.dead∨st.get J=q' a:=by
 all_goals grind [jZ,dH,nl]
def K2(d:WF st)(a:b<st.n):WF (jZ st es et fo b o len n c):=by
 unfold jZ;dsimp only;split
 ·exact d.kill
 exact d.kill.YH (by rw[iK];exact a)
theorem LU(p:WF st)(l:st.get b=q' (.cells c es et fo)){k h:Nat} 
  (d:(jZ st es et fo b o len n c).get J=q' (.cells E k et h)):fo+o+(len+n)*es<=h∨h+j' E<=fo+o+len*es:=by
 have a:=(mL d).resolve_left (by intro s;cases s);have q:=p.lt _ _ a;have g:=(p.et _ _ _ _ _ a).2;have f:=(p.et _ _ _ _ _ l).2;unfold wh at g f;by_cases i:J=b
 ·subst i;rw[l]at a;cases a;unfold jZ at d;dsimp only at d;split at d
  ·rename_i m;have:=ais m;exact .inr om
  grind [dH]
 cases e:st.fm.get et with
 |none=>rw[e]at g f;exact Y' (g.trans f.symm) i
 |some r=>
  rw[e]at g;have j:(st.kill et st.n (fo+o+len*es) (fo+o+(len+n)*es)).get J=q' (.cells E k et h):=by
   unfold jZ at d;dsimp only at d;all_goals grind [dH]
  exact wo (y4 e g om j)
def lS(a:Nat):(grown st es et fo b o len n c old xs).get a=if a=st.n then q' (.cells (old++xs) es et (fo+o))else(jZ st es et fo b o len n c).get a:=by
 unfold grown jZ St.get;dsimp only;rw[dx]
theorem Az(x:WF st)(s:st.get b=q' (.cells c es et fo)):WF (grown st es et fo b o len n c old xs):=by
 have w:=x.lt _ _ s;have l:=K2 (es:=es) (et:=et) (fo:=fo) (o:=o) (len:=len) (n:=n) (c:=c) x w;have m:=x.et _ _ _ _ _ s;refine⟨λq z d=>?_,λq C G f1 D d=>?_,λj e k=>?_⟩
 ·show q<st.n+1;rw[lS]at d;by_cases y:q=st.n
  ·omega
  rw[W' y]at d;have:=l.lt _ _ d;rw[rm]at this;omega
 ·show f1<st.n+1/\wh _ q f1;rw[lS]at d;have h:(jZ st es et fo b o len n c).fm=(st.kill et st.n (fo+o+len*es) (fo+o+(len+n)*es)).fm:=by
   unfold jZ;dsimp only;split<;>rfl
  have p:∀j,(grown st es et fo b o len n c old xs).fm.get j=if j=et then q' (st.n::(match(st.kill et st.n (fo+o+len*es) (fo+o+(len+n)*es)).fm.get et with|some e=>e|none=>if aiv (j' c) (o+len*es)then [b]else []))else(jZ st es et fo b o len n c).fm.get j:=by
   intro j;rw[h];unfold grown;dsimp only;rw[dx];split
   ·rfl
   split<;>rfl
  by_cases y:q=st.n
  ·grind [wh]
  rw[W' y]at d;have u:=l.et _ _ _ _ _ d;rw[rm]at u;refine⟨om,?_⟩;have a:=u.2;unfold wh at a⊢;rw[p];by_cases f:f1=et
  ·subst f;rw[X' rfl];rw[h]at a;refine aiU.2 (.inr ?_);cases g:(st.kill f1 st.n (fo+o+len*es) (fo+o+(len+n)*es)).fm.get f1 with
   |some e=>rw[g]at a;exact a
   |none=>
    rw[g]at a;have i:st.fm.get f1=u':=by
     cases v:st.fm.get f1 with
     |none=>rfl
     |some e=>rw[js v]at g;simp only[dx]at g;simp at g
    have r:b=f1:=by have:=m.2;unfold wh at this;rw[i]at this;exact this
    have t:q=b:=by rw[r];exact a
    subst t;dsimp only;unfold jZ at d;dsimp only at d;all_goals grind [dH]
  rw[W' f];exact a
 show j<st.n+1;unfold grown at k;dsimp only at k;rw[dx]at k;by_cases f:j=et
 ·subst f;omega
 rw[W' f]at k;have:j<(jZ st es et fo b o len n c).n:=by
  refine l.TX j e ?_
  grind [jZ]
 rw[rm]at this;omega
end
theorem wq{v:C'}(a:flat v=A')(ρ:Ren):dA ρ v v:=by
 unfold flat at a;split at a<;>first|cases a|skip
 ·exact .bool _
 ·exact .int _ _
 ·exact .string _
 ·exact .Rq
 ·exact .nS
 ·exact .Rr
 ·exact .nilFunc
 exact .nilIface
def kR(b:E.all flat=A')(ρ:Ren):du ρ E E:=by
 induction E with
 |nil=>exact .nil
 |cons v E a=>simp only[aiW,aiw]at b;exact .cons (wq b.1 ρ) (a b.2)
def Rv:N'->Bool
 |.struct _=>A'
 |.array _ _=>A'
 |_=>B'
def LV(ti:TI)(a:C'):Prop:=(ti.agg=A'/\a=.agg ti.zero.toArray)∨(ti.agg=B'/\ti.zero=[a]/\flat a=A')
def LV.cells{ti:TI}{b:C'}(c:LV ti b):b.cells.toList=ti.zero:=by
 rcases c with⟨_,rfl⟩|⟨_,d,a⟩
 ·rfl
 rw[d];cases b<;>first|rfl|(simp[flat]at a;done)
variable{B H:C'}
def LV.mk{ti:TI}(c:LV ti B):Oc ti.agg ti.zero=q' B:=by
 rcases c with⟨a,rfl⟩|⟨a,b,_⟩
 ·rw[a];rfl
 rw[a,b];rfl
structure qb (C:eN):Prop where
 und:∀t ti,C.tt.get t=q' ti->C.P.underlying t=q' ti.desc
 abL:∀t ti,C.tt.get t=q' ti->∃i z,C.P.info? t=q' i/\i.size=ti.size/\i.bytes=ti.bytes/\i.zero=q' z/\LV ti z
 agg:∀t ti,C.tt.get t=q' ti->ti.agg=Rv ti.desc
 air:∀t ti,C.tt.get t=q' ti->j' ti.zero=ti.size
 Dx:∀t ti,C.tt.get t=q' ti->ti.zero.all flat=A'
section
variable{C:eN} {t:F'} {ti:TI}
def fv(b:qb C)(a:C.tt.get t=q' ti)(w:G'):(underlying t).run C.P w=.ok ti.desc w:=run_underlying (b.und _ _ a) w
def YI(c:qb C)(d:C.tt.get t=q' ti)(w:G'):∃a b,(typeInfo t).run C.P w=.ok a w/\a.size=ti.size/\a.bytes=ti.bytes/\a.zero=q' b/\LV ti b:=by
 have⟨a,b,f,e⟩:=c.abL _ _ d;exact⟨a,b,by simp[typeInfo,f],e⟩
def jp(a:qb C)(b:C.tt.get t=q' ti)(w:G'):(sizeOf t).run C.P w=.ok ti.size w:=by
 have⟨f,e,c,d,_⟩:=a.abL _ _ b;simp[sizeOf,typeInfo,c,d]
def K3(b:qb C)(c:C.tt.get t=q' ti)(w:G'):∃a,(typeInfo t).run C.P w=.ok a w/\a.bytes=ti.bytes:=by
 have⟨a,f,e,g,d,_⟩:=YI b c w;exact⟨a,e,d⟩
def EQ(b:qb C)(a:C.tt.get t=q' ti)(w:G'):(isAgg t).run C.P w=.ok ti.agg w:=by
 unfold isAgg;rw[Sem.run_bind,fv b a w,Result.andThen_ok,b.agg _ _ a];cases ti.desc<;>rfl
def nU(c:qb C)(e:C.tt.get t=q' ti)(w:G'):∃a,(zeroValue t).run C.P w=.ok a w/\LV ti a:=by
 have⟨h,a,f,i,g,b,d⟩:=c.abL _ _ e;exact⟨a,by simp[zeroValue,typeInfo,f,b],d⟩
end
structure Kept (w0:G') (N0:Nat) (G:Nat->Prop) (ρ:Ren) (dy:St) (v:C') (v':C') (w':G') (dM:Ren):Prop where
 le:ρ.le dM
 world:dQ w0 N0 G dM dy w'
 value:dA dM v v'
def uD(w0:G')(N0:Nat)(G:Nat->Prop)(ρ:Ren)(dy:St)(v:C')(d:Result C'):Prop:=
 ∃c b a,d=.ok b a/\Kept w0 N0 G ρ dy v b a c
variable{F:Array C'}
section
variable{C:eN} {w0:G'} {N0:Nat} {G:Nat->Prop} {ρ:Ren} {st dy:St} {w:G'} {v:C'}
def uD.same(b:dQ w0 N0 G ρ st w)(a:dA ρ v B):uD w0 N0 G ρ st v (.ok B w):=⟨ρ,B,w,rfl,Ren.le_refl _,b,a⟩
theorem dS{st dy:St}{v a:C'}(b:val v st=q' (.val a dy)):a=v/\dy=st:=by
 grind [val]
def dQ.row(f:dQ w0 N0 G ρ st w){c:n_ C'}{es:Nat}(a:F')(b:du ρ c F.toList):
  dQ w0 N0 G (ρ.add st.n ⟨w.heap.size,0,es,F.size⟩) (st.new (.cells c es st.n 0)) {w with heap:=w.heap.push (.cells F a)}:=by
 refine f.new Z Z ⟨F,a,0,0,Z,Z,Z,?_,λi v d=>?_,λi _ h=>om⟩
 ·have:=b.len;simp at this;simp;omega
 have⟨e,j,g⟩:=b.get d;refine⟨e,?_,g.mono (fb f.jr)⟩;simpa using j
def jD{w:G'}(a:F')(c:Array C'):(Go.newRow a c).run O w=.ok ⟨w.heap.size,0,u'⟩ {w with heap:=w.heap.push (.cells c a)}:=by
 simp[Go.newRow,newObj,Sem.run]
def Vo(c:qb C)(h:dQ w0 N0 G ρ st w){t:F'}(b:zq C t st=q' (.val v dy)):uD w0 N0 G ρ dy v ((Instr.alloc t A' (.tuple #[])).run C.P w):=by
 unfold zq at b;split at b
 ·rename_i ti d;obtain⟨rfl,rfl⟩:=dS b;have⟨g,f,e⟩:=nU c d w;have a:du ρ ti.zero g.cells.toList:=by rw[e.cells];exact kR (c.Dx _ _ d) ρ
  refine⟨_,.pointer (q' ⟨w.heap.size,0,u'⟩),_,?_,fb h.jr,h.row t a,?_⟩
  ·simp only[Instr.alloc,Sem.run_bind,f,Result.andThen_ok,newVar,jD,Sem.run_pure]
  exact .ptr (l:=⟨w.heap.size,0,ti.size,g.cells.size⟩) (dG _ _ _)
 cases b
def abM(c:dQ w0 N0 G ρ st w){t:F'}(b:dA ρ B H)(a:Rn B st=q' (.val v dy)):uD w0 N0 G ρ dy v ((Instr.box t H).run C.P w):=by
 unfold Rn at a;split at a
 ·obtain⟨rfl,rfl⟩:=dS a;refine⟨_,.pointer (q' ⟨w.heap.size,0,u'⟩),_,?_,fb c.jr,c.row t b.cells,?_⟩
  ·simp only[Instr.box,Sem.run_bind,Result.andThen_ok,newVar,jD,Sem.run_pure]
  exact .ptr (l:=⟨w.heap.size,0,_,H.cells.size⟩) (dG _ _ _)
 cases a
def ER{b o:Nat}(a:dA ρ (.pointer (q' ⟨b,o,u'⟩)) B):∃c,ρ b=q' c/\B=.pointer (q' ⟨c.b,c.d+o,u'⟩):=by
 cases a with
 |ptr a=>exact⟨_,a,rfl⟩
theorem Rw(p:dQ w0 N0 G ρ st w){b o:Nat}{j:Loc}(d:ρ b=q' j)(g:hX st b o 1=q' [B]):
  ∃a,w.cell? ⟨j.b,j.d+o,u'⟩=q' a/\dA ρ B a:=by
 have⟨c,es,r,s,e,k,i⟩:=qH g;have⟨l,f,lo,hi,t,m⟩:=p.obj _ _ _ d e;have h:c[o]?=q' B:=by
  have:((c.drop o).take 1)[0]?=q' B:=by rw[<-i];rfl
  simpa using this
 have⟨a,n,q⟩:=m.cell _ _ h
 grind [cell_of]
def Of(h:qb C)(s:dQ w0 N0 G ρ st w){t:F'}(r:dA ρ B H)(d:At C t B st=q' (.val v dy)):
  ∃i,(Instr.loadAt t H).run C.P w=.ok i w/\dA ρ v i/\dy=st:=by
 unfold At at d;split at d
 ·rename_i ti b o g;obtain⟨D,j,rfl⟩:=ER r;split at d
  ·rename_i c l f;split at d
   ·rename_i z a;obtain⟨rfl,rfl⟩:=dS d;cases e:ti.agg with
    |true=>
     have⟨n,m,k⟩:=s.read j f C.P;refine⟨.agg n,?_,?_,Z⟩
     ·simp only[Instr.loadAt,Instr.sureAddr,loadVar,Sem.run_bind,Sem.run_pure,Result.andThen_ok,EQ h g,e,c_,jp h g,m]
     rw[e]at a;simp[Oc]at a;subst a;exact .agg k
    |false=>
     rw[e]at a l;have p:ti.size=1:=by simpa using l
     rw[p]at f;have q:=iJ f
     match c,q,a with
     |[y],_,a=>
      simp[Oc]at a;subst a;have⟨H,x,u⟩:=Rw s j f;refine⟨H,?_,u,Z⟩;simp only[Instr.loadAt,Instr.sureAddr,loadVar,Sem.run_bind,Sem.run_pure,Result.andThen_ok,EQ h g,e,aix,b_,run_load x]
   cases d
  cases d
 cases d
def Vp(m:qb C)(x:dQ w0 N0 G ρ st w){t:F'}{u d:C'}(j:dA ρ B H)(i:dA ρ u d)(a:mN C t B u st=q' (.val v dy)):
  ∃c,(Instr.storeAt t H d).run C.P w=.ok () c/\dQ w0 N0 G ρ dy c/\v=mM/\dy.n=st.n:=by
 unfold mN at a;split at a
 ·rename_i ti b o k;obtain⟨y,l,rfl⟩:=ER j;split at a
  ·rename_i q;split at a
   ·rename_i s n;obtain⟨rfl,rfl⟩:=dS a;have⟨c,p,f,r⟩:=x.write l n i.cells C.P;have e:=i.cells.len;have g:=ait q;refine⟨c,?_,f,Z,r⟩;have h:d.cells.size=ti.size:=by rw[<-g,e];simp
    simp only[Instr.storeAt,Instr.sureAddr,storeVar,Sem.run_bind,Sem.run_pure,Result.andThen_ok,jp m k,h,ne_eq,not_true_eq_false,b_,p]
   cases a
  cases a
 cases a
end
variable{M:n_ (Nat×C')}
section
variable{C:eN} {w0:G'} {N0:Nat} {G:Nat->Prop} {ρ:Ren} {st dy:St} {w:G'} {v:C'}
theorem Vq(b:n_ C'):∀(c:Array C') (a d:Nat),a+d+j' b<=c.size->
  ((b.zipIdx d).foldl (λg (h:C'×Nat)=>g.setIfInBounds (a+h.2) h.1) c).toList=eh c.toList (a+d) b:=by
 induction b with
 |nil=>intro c a d _;cases i:c.toList<;>simp[eh,i]
 |cons v b f=>
  intro c a d e;simp only[aiD]at e;simp only[List.zipIdx_cons,List.foldl_cons];rw[f _ a (d+1) (by simp;omega)];refine List.ext_getElem? λj=>?_;rw[pR _ _ _ _ (by simp;omega),pR _ _ _ _ (by simp;omega)];all_goals grind
inductive DA (ρ:Ren):List (Nat×C')->List (Nat×C')->Prop
 |nil:DA ρ [] []
 |cons {i:Nat} {v v':C'} {l l':List (Nat×C')} (h:dA ρ v v') (t:DA ρ l l'):DA ρ ((i,v)::l) ((i,v')::l')
def Og{c e a b:n_ C'}(h:du ρ c e)(d:du ρ a b){n:Nat}(f:n+j' a<=j' c):du ρ (eh c n a) (eh e n b):=by
 have j:=h.len;have i:=d.len;refine Aw (by rw[nT,nT,j]) λk v hi=>?_;rw[pR _ _ _ _ f]at hi;rw[pR _ _ _ _ om,<-i];by_cases g:n<=k/\k<n+j' a
 ·rw[X' g]at hi⊢;exact d.get hi
 rw[W' g]at hi⊢;exact h.get hi
theorem AA{f place':Nat->Option (Nat×Nat)}(y:∀C g,f C=q' g->place' C=q' g){m:n_ (Nat×C')}(r:DA ρ M m):
  ∀{c:n_ C'} {b:Array C'} {u:n_ C'},du ρ c b.toList->sb f c M=q' u->∃i,Instr.fill place' b m=q' i/\du ρ u i.toList:=by
 induction r with
 |nil=>intro c b u l d;simp[sb]at d;subst d;exact⟨b,rfl,l⟩
 |@cons C v j P N G t z=>
  intro c b u l d;simp only[sb]at d;split at d
  ·cases d
  rename_i e w q;split at d
  ·rename_i a;simp only[aiw]at a;have L:=ait a.1;have K:=ais a.2;have n:=G.cells.len;have s:=l.len;simp only[aiz]at n s;have k:=Vq j.cells.toList b e 0 (by simp;omega);have o:du ρ (eh c e (cellsOf v)) (j.cells.zipIdx.foldl (λh (g:C'×Nat)=>h.setIfInBounds (e+g.2) g.1) b).toList:=by
    have x:j.cells.zipIdx.foldl (λh (g:C'×Nat)=>h.setIfInBounds (e+g.2) g.1) b=(j.cells.toList.zipIdx 0).foldl (λh (g:C'×Nat)=>h.setIfInBounds (e+g.2) g.1) b:=by
     rw[<-Array.foldl_toList,Array.toList_zipIdx]
    rw[x,k];exact Og l G.cells om
   have⟨i,D,p⟩:=z o d;refine⟨i,?_,p⟩;simp only[Instr.fill,y _ _ q];all_goals grind
  cases d
def Oh(l:qb C):∀(a:n_ Field),(a.all λe=>(C.tt.get e.type).isSome)=A'->
  ∃b:n_ (Nat×Nat),(a.mapM (m:=Sem) λe=>do pure (e.offset,<-sizeOf e.type)).run C.P w=.ok b w/\∀c f,iC C ⟨a⟩ c=q' f->b[c]?=q' f:=by
 intro a;induction a with
 |nil=>intro _;exact⟨[],by simp,λc f h=>by simp[iC,nth]at h⟩
 |cons e a k=>
  intro h;simp only[aiW,aiw]at h;have⟨b,n,j⟩:=k h.2;have⟨ti,i⟩:=Option.isSome_iff_exists.1 h.1;refine⟨(e.offset,ti.size)::b,?_,λc f d=>?_⟩
  ·simp only[List.mapM_cons,Sem.run_bind,jp l i,Result.andThen_ok,Sem.run_pure,n]
  cases c with
  |zero=>simp only[iC,nth,i]at d;simpa using d
  |succ c=>have g:iC C ⟨a⟩ c=q' f:=d;simpa using j c f g
def Vr(d:qb C)(E:dQ w0 N0 G ρ st w){t:F'}{ps':Array (Nat×C')}(j:DA ρ M ps'.toList)(a:zn C t M st=q' (.val v dy)):
  ∃u,(Instr.build t ps').run C.P w=.ok u w/\dA ρ v u/\dy=st:=by
 unfold zn at a;split at a
 ·rename_i ti h;have⟨B,D,z⟩:=nU d h w;have i:du ρ ti.zero B.cells.toList:=by rw[z.cells];exact kR (d.Dx _ _ h) ρ
  split at a
  ·rename_i b k;split at a
   ·rename_i c r x p;obtain⟨rfl,rfl⟩:=dS a;have⟨L,R,l⟩:=Oh (w:=w) d b.toList r;obtain⟨o,g,e⟩:=AA (place':=λs=>L.toArray[s]?) (λs V q=>by
     have:=l s V q;simpa using this) j i p
    refine⟨.agg o,?_,.agg e,Z⟩;have P:(b.mapM (m:=Sem) λA=>do pure (A.offset,<-sizeOf A.type)).run C.P w=.ok L.toArray w:=by
     rw[Array.mapM_eq_mapM_toList]
     simp_all
    simp only[Instr.build,Sem.run_bind,D,Result.andThen_ok,fv d h,k,P,g,Sem.run_pure]
   cases a
  ·rename_i n N k;split at a
   ·rename_i K y x;split at a
    ·rename_i c p;obtain⟨rfl,rfl⟩:=dS a;have⟨o,g,e⟩:=AA (place':=λs=>q' (s*K.size,K.size)) (λs V q=>q) j i p;refine⟨.agg o,?_,.agg e,Z⟩;simp only[Instr.build,Sem.run_bind,D,Result.andThen_ok,fv d h,k,jp d y,g,Sem.run_pure]
    cases a
   cases a
  cases a
 cases a
theorem LW(a:n_ C'):∀n,j' (yH a n)=n*j' a/\∀b:Nat,b<n*j' a->(yH a n)[b]?=a[b%j' a]?:=by
 intro n;induction n with
 |zero=>exact⟨by simp[yH],λb d=>om⟩
 |succ n c=>
  refine⟨by simp[yH,c.1,aiM,Nat.add_comm],λb d=>?_⟩;simp only[yH];by_cases hi:b<j' a
  ·grind [Nat.mod_eq_of_lt]
  grind [Nat.succ_mul,Nat.mod_eq_sub_mod]
def x5{b:n_ C'}(a:b.all flat=A'):∀n,(yH b n).all flat=A'
 |0=>rfl
 |n+1=>by simp only[yH,List.all_append,a,Bool.true_and];exact x5 a n
theorem AB{b:Nat->Option (Nat×Nat)}:∀{a:n_ (Nat×C')} {c d:n_ C'},sb b c a=q' d->j' d=j' c:=by
 intro a;induction a with
 |nil=>intro c d e;simp[sb]at e;rw[e]
 |cons g a f=>
  all_goals grind [sb,nT]
theorem Fx(a:Array C')(n:Nat):((aiQ (n*a.size)).map (a[· %a.size]!)).toList=yH a.toList n:=by
 refine List.ext_getElem? λc=>?_;have b:=LW a.toList n;all_goals grind
theorem Fy(hT:qb C)(z:dQ w0 N0 G ρ st w){t:F'}{n:Nat}{g:Array (Nat×C')}(q:DA ρ M g.toList)(a:lp C t n M st=q' (.val v dy)):
  uD w0 N0 G ρ dy v ((Instr.buildSlice t n g).run C.P w):=by
 unfold lp at a;split at a
 ·rename_i ti ht;split at a
  ·rename_i h hd;split at a
   ·rename_i te hte;split at a
    ·rename_i c b u;split at a
     ·rename_i y;obtain⟨rfl,rfl⟩:=dS a;simp only[aiw]at b;have s:=aiH.mp b.1.1;have D:=ais b.1.2;have k:=ait b.2;have⟨r,hz,e⟩:=nU hT hte w;have p:r.cells.size=te.size:=by rw[<-k,<-e.cells];simp
      have m:du ρ (yH te.zero n) ((aiQ (n*te.size)).map (r.cells[· %r.cells.size]!)).toList:=by
       rw[<-p,Fx,e.cells];exact kR (x5 (hT.Dx _ _ hte) n) ρ
      have⟨j,hr1,d⟩:=AA (place':=λK=>q' (K*te.size,te.size)) (λK N x=>x) q m u;have i:j.size=n*te.size:=by
       have L:=d.len
       grind [aiz,AB,LW]
      refine⟨_,.slice (q' ⟨w.heap.size,0,u'⟩) n n,_,?_,fb z.jr,z.row h d,?_⟩
      ·exact IS
      refine .slice (l:=⟨w.heap.size,0,te.size,j.size⟩) (dG _ _ _) (aiE _) ?_;simp[i]
     cases a
    cases a
   cases a
  cases a
 cases a
end
def FA{a b:Int}:tD a b=A'↔a=b:=by
 cases a<;>cases b<;>simp only[tD,Nat.beq_eq]<;>first|(constructor<;>intro c<;>first|omega|(cases c;rfl)|(subst c;rfl))|simp
def x6(a b:Int):tD a b=(a==b):=by
 rw[aiF,FA];simp
def uE{b a:E'}:v8 b a=A'↔b=a:=by
 cases b<;>cases a<;>simp[v8]
theorem Rx{a b:Int}:tF a b=A'↔a<b:=by
 cases a<;>cases b<;>simp only[tF,aiH];all_goals simp only[Int.negSucc_eq,Int.ofNat_eq_natCast]
 ·omega
 ·grind
 ·grind
 omega
def K4(a b:Int):tF a b=decide (a<b):=by
 rw[aiF,Rx];simp
theorem si:∀(a b:cC),mA a b=(a==b):=by
 intro a;induction a with
 |nil=>intro b;cases b<;>rfl
 |cons e a c=>
  intro b;cases b with
  |nil=>rfl
  |cons d b=>
   grind [mA,UInt8.toNat_inj.1,ait,aiG]
theorem Oi:∀(a b:cC),cS a b=Op.bytesLess a b:=by
 intro a;induction a with
 |nil=>intro b;cases b<;>rfl
 |cons d a f=>
  intro b;cases b with
  |nil=>rfl
  |cons c b=>
   simp only[cS,Op.bytesLess];have e:(decide (d<c))=aiC d.toNat c.toNat:=by
    rw[aiF];simp[UInt8.lt_iff_toNat_lt]
   grind [UInt8.toNat_inj.1,ait,aiG]
def toList_data(a:ByteArray):a.toList=a.data.toList:=by
 rw[Go.ByteArray.toList_eq]
variable{X:BinOp}
section
variable{C:eN} {w0:G'} {N0:Nat} {G:Nat->Prop} {ρ:Ren} {st dy:St} {w:G'} {v:C'}
def Ry{f:E'}{c b:Int}(a:wb X f c b=q' v)(g:EM X=B')(t:F'):(binOp X t (.int f c) (.int f b)).run C.P w=.ok v w:=by
 cases X<;>simp[EM]at g<;>simp only[wb,Option.some.injEq]at a
 case quo=>
  split at a
  ·cases a
  rename_i e;have d:b≠0:=by rw[x6]at e;simpa using e
  cases a;simp[binOp,Op.intDiv,d]
 all_goals try (cases a;done)
 all_goals
  subst a;simp only[binOp,ne_eq,not_true_eq_false,b_,Op.intArith,Op.intBits,Op.intCmp,Sem.run_pure,x6,K4];try rfl
 ·have:decide (c<=b)= !decide (b<c):=by rw[aiF];simp
  rw[this]
 have:decide (c≥b)= !decide (c<b):=by rw[aiF];simp
 rw[this]
def LX{d c:E'}{e b:Int}(a:wc X d e b=q' v)(t:F'):(binOp X t (.int d e) (.int c b)).run C.P w=.ok v w:=by
 unfold wc at a;split at a
 ·rename_i n;split at a
  ·cases a;simp[binOp,Op.shift];intro a;omega
  ·cases a;simp[binOp,Op.shift];intro a;omega
  cases a
 cases a
def size_data(s:ByteArray):s.size=j' s.data.toList:=by
 cases s;rfl
def Vs(a b:ByteArray):a++b=Rl a b:=by
 apply ByteArray.ext;simp[Rl,ByteArray.data_append]
def Rz{a b:ByteArray}(d:zr X a b=q' v)(t:F'):(binOp X t (.string a) (.string b)).run C.P w=.ok v w:=by
 have f:(a.toList==b.toList)=pO a b:=by rw[toList_data,toList_data,pO,si]
 have g:Op.bytesLess a.toList b.toList=KY a b:=by rw[toList_data,toList_data,KY,Oi]
 cases X<;>simp only[zr,Option.some.injEq]at d
 case add=>
  split at d
  ·rename_i e;cases d;have:=ais e;have c:¬(((a.size+b.size:Nat):Int)>IntKind.i64.max):=by
    rw[size_data,size_data];simp[IntKind.max,IntKind.signed,IntKind.bits];simp at this;omega
   simp only[binOp,Op.stringOp,W' c,Sem.run_pure,Vs]
  cases d
 all_goals first
  |cases d;done
  |(subst d;simp only[binOp,Op.stringOp,Sem.run_pure,f,g])
end
variable{Q:N'} {U:Bool} {I:Array (String×F')}
section
variable{C:eN} {w0:G'} {N0:Nat} {G:Nat->Prop} {ρ:Ren} {st dy:St} {w:G'} {v:C'}
def wu{t:F'}{j b f g:C'}(c:C.P.underlying t=q' Q)(d:dA ρ j f)(e:dA ρ b g)(a:lR Q j b=q' U)(n:Nat):
  (Op.equalIn (n+1) t f g).run C.P w=.ok U w:=by
 unfold lR at a;split at a
 ·cases d;cases e;cases a;exact run_equalIn_bool' w n t _ _ c
 ·rename_i i k j l b;split at a
  ·rename_i h;have:=uE.1 h;subst this;cases d;cases e;cases a;rw[run_equalIn_int w n t k i _ _ c,x6]
  cases a
 ·cases d;cases e;cases a;rw[run_equalIn_string w n t _ _ c,toList_data,toList_data,pO,si]
 cases a
theorem wv(b:qb C){t:F'}{ti:TI}(c:C.tt.get t=q' ti)(a:ti.agg=B')(d:F[J]?=q' B):
  (part t F J).run C.P w=.ok B w:=by
 unfold part;simp only[Sem.run_bind,EQ b c,Result.andThen_ok,a,aix,b_,d,Sem.run_pure]
def LY(e:qb C){xs q h i:Array C'}(u:du ρ xs.toList h.toList)(t:du ρ q.toList i.toList)(n:Nat):
  ∀{f:n_ Field} {s:Bool},wa C xs.toList q.toList f=q' s->(Op.eqFields (n+1) h i f).run C.P w=.ok s w:=by
 intro f;induction f with
 |nil=>intro s c;simp[wa]at c;subst c;rfl
 |cons z f x=>
  intro s c;simp only[wa]at c;split at c
  ·cases c
  rename_i v;have j:z.name≠ "_" :=by simpa using v
  split at c
  ·rename_i ti G b d r o;split at c
   ·cases c
   rename_i a;rw[cx]at r o;have⟨D,l,m⟩:=u.get r;have⟨y,k,p⟩:=t.get o;rw[aiy]at l k;split at c
   ·rename_i g;have:=wu (w:=w) (e.und _ _ d) m p g n;simp only[Op.eqFields,ne_eq,j,not_false_eq_true,c_,Sem.run_bind,wv e d a l,wv e d a k,Result.andThen_ok,this,Bool.not_true,aix,b_];exact x c
   ·rename_i g;cases c;have:=wu (w:=w) (e.und _ _ d) m p g n;simp only[Op.eqFields,ne_eq,j,not_false_eq_true,c_,Sem.run_bind,wv e d a l,wv e d a k,Result.andThen_ok,this,aiS,Sem.run_pure]
   cases c
  cases c
theorem RA{n:Nat}{t:F'}(hu:C.P.underlying t=q' (.interface I)):(Op.equalIn (n+1) t .nilIface .nilIface).run C.P w=.ok A' w:=by
 exact tx
theorem Vt{n:Nat}{t:F'}(hu:C.P.underlying t=q' (.interface I))(a:F')(b:C'):(Op.equalIn (n+1) t .nilIface (.iface a b)).run C.P w=.ok B' w:=by
 exact tx
theorem Vu{n:Nat}{t:F'}(hu:C.P.underlying t=q' (.interface I))(a:F')(b:C'):(Op.equalIn (n+1) t (.iface a b) .nilIface).run C.P w=.ok B' w:=by
 exact tx
def Vv{n:Nat}{t f:F'}(hu:C.P.underlying t=q' (.slice f))(a:Option Addr)(e b c d:Nat):(Op.equalIn (n+1) t (.slice u' e b) (.slice a c d)).run C.P w=.ok a.isNone w:=by
 exact tx
def Vw{n:Nat}{t f:F'}(hu:C.P.underlying t=q' (.slice f))(d:Addr)(e b c a:Nat):(Op.equalIn (n+1) t (.slice (q' d) e b) (.slice u' c a)).run C.P w=.ok B' w:=by
 exact tx
theorem abN(a:BinOp)(t:F')(c b:H')(d:F')(e:C'):(eqGuard a t c b .nilIface (.iface d e)).run C.P w=.ok () w:=by cases a<;>rfl
theorem abO(a:BinOp)(t:F')(c b:H')(d:F')(e:C'):(eqGuard a t c b (.iface d e) .nilIface).run C.P w=.ok () w:=by cases a<;>rfl
def Oj(a:BinOp)(t:F')(f e:H')(i g:Option Addr)(h b c d:Nat):(eqGuard a t f e (.slice i h b) (.slice g c d)).run C.P w=.ok () w:=by cases a<;>rfl
def abP(a:BinOp)(t:F')(e c:H')(d b:Bool):(eqGuard a t e c (.bool d) (.bool b)).run C.P w=.ok () w:=by cases a<;>rfl
def TZ(a:BinOp)(t:F')(e d:H')(f c:E')(g b:Int):(eqGuard a t e d (.int f g) (.int c b)).run C.P w=.ok () w:=by cases a<;>rfl
def T0(a:BinOp)(t:F')(e c:H')(d b:ByteArray):(eqGuard a t e c (.string d) (.string b)).run C.P w=.ok () w:=by cases a<;>rfl
theorem YJ(a:BinOp)(t:F')(c b:H')(d:(oY c||oY b)=A'):(eqGuard a t c b .nilIface .nilIface).run C.P w=.ok () w:=by
 cases a<;>cases c<;>cases b<;>first|rfl|(simp[oY]at d;done)
theorem T1(l:qb C){t:F'}{r s:H'}{u b k i:C'}(c:dA ρ u k)(a:dA ρ b i)(f:Ro C t r s u b=q' U)(p:BinOp):
  (∀n,(Op.equalIn (n+2) t k i).run C.P w=.ok U w)/\(eqGuard p t r s k i).run C.P w=.ok () w:=by
 unfold Ro at f;split at f
 ·cases f
 rename_i ti q;have e:=l.und _ _ q;split at f
 ·rename_i d;rw[d]at e;split at f
  ·rename_i x;cases f;cases c;cases a
   grind [RA,YJ]
  cases f
 ·rename_i d;rw[d]at e;cases f;cases c;cases a
  grind [Vt,abN]
 ·rename_i d;rw[d]at e;cases f;cases c;cases a
  grind [Vu,abO]
 ·rename_i g xs v d;rw[d]at e;simp only at f;split at f
  ·cases f
  rename_i j;rw[Bool.or_eq_false_iff]at j;cases c with
  |agg c=>
   cases a with
   |agg a=>
    have o:C.P.fieldsOf t=g:=by unfold Program.fieldsOf;rw[e]
    have m:C.P.underlying t=q' (.struct (C.P.fieldsOf t)):=by rw[o];exact e
    refine⟨?_,run_eqGuard_agg w p t r s _ _ j.1⟩;intro n;rw[run_equalIn_agg w (n+1) t _ _ m j.2,o];exact LY l c a n f
 ·rename_i d;rw[d]at e;cases f;cases c;cases a<;>exact⟨λn=>Vv e _ _ _ _ _,Oj _ _ _ _ _ _ _ _ _ _⟩
 ·rename_i h d;rw[d]at e;cases f;cases a;cases c<;>first|exact(h _ _ rfl).elim|exact(h rfl).elim|exact⟨λn=>Vw e _ _ _ _ _,Oj _ _ _ _ _ _ _ _ _ _⟩
 refine⟨λn=>wu e c a f (n+1),?_⟩;unfold lR at f;split at f
 ·cases c;cases a;exact abP _ _ _ _ _ _
 ·cases c;cases a;exact TZ _ _ _ _ _ _ _ _
 ·cases c;cases a;exact T0 _ _ _ _ _ _
 cases f
end
section
variable{C:eN} {w0:G'} {N0:Nat} {G:Nat->Prop} {ρ:Ren} {st dy:St} {w:G'} {v:C'}
def FD{t:F'}{a b:C'}(c:∀n,(Op.equalIn (n+2) t a b).run C.P w=.ok U w):(Op.equal t a b).run C.P w=.ok U w:=c 9998
def binOp_eql{t:F'}{a b:C'}(h1:∀e c f d,¬(a=.int e c/\b=.int f d))(h2:∀c d,¬(a=.string c/\b=.string d))(h3:∀e c,a≠.float e c)(h4:∀e c d,a≠.complex e c d):
  binOp .eql t a b=(do pure (.bool (<-Op.equal t a b)))/\binOp .neq t a b=(do pure (.bool (!(<-Op.equal t a b)))):=by
 constructor
 ·exact JD
 exact JD
def dA.T2(e:dA ρ B H):(∀b a,H≠.float b a)/\(∀b a d,H≠.complex b a d):=by
 cases e<;>exact⟨(λ_ _ c=>by cases c),(λ_ _ _ c=>by cases c)⟩
def abQ(q:qb C){t:F'}{g i:H'}{r b h f:C'}(c:dA ρ r h)(e:dA ρ b f)(a:LO C X t g i r b=q' v):
  (do eqGuard X t g i h f;binOp X t h f:Sem C').run C.P w=.ok v w/\dA ρ v v:=by
 unfold LO at a;split at a
 ·rename_i s G j n;cases c;cases e;have u:(eqGuard X t g i (.int s G) (.int j n)).run C.P w=.ok () w:=TZ _ _ _ _ _ _ _ _;rw[Sem.run_bind,u,Result.andThen_ok];split at a
  ·refine⟨LX a t,?_⟩;unfold wc at a;split at a<;>first|cases a|skip
   split at a<;>cases a<;>exact .int _ _
  rename_i p;split at a
  ·rename_i x;have:=uE.1 x;subst this;refine⟨Ry a p t,?_⟩;unfold wb at a;split at a<;>first|(cases a;first|exact .int _ _|exact .bool _)|(split at a<;>cases a<;>exact .int _ _)|cases a
  cases a
 ·cases c;cases e;rw[Sem.run_bind,T0,Result.andThen_ok];refine⟨Rz a t,?_⟩;unfold zr at a;split at a<;>first|(cases a;exact .bool _)|(split at a<;>cases a<;>exact .string _)|cases a
 rename_i hi p;have o:∀s g j i,¬(h=.int s g/\f=.int j i):=by
  rintro s g j i ⟨rfl,rfl⟩;cases c;cases e;exact hi _ _ _ _ Z Z
 have l:∀g i,¬(h=.string g/\f=.string i):=by
  rintro g i ⟨rfl,rfl⟩;cases c;cases e;exact p _ _ Z Z
 have⟨z,y⟩:=binOp_eql (t:=t) o l c.T2.1 c.T2.2;split at a
 ·cases d:Ro C t g i r b with
  |none=>rw[d]at a;cases a
  |some D=>
   rw[d]at a;cases a;have⟨m,k⟩:=T1 (w:=w) q c e d .eql;refine⟨?_,.bool _⟩;rw[Sem.run_bind,k,Result.andThen_ok,z,Sem.run_bind,FD m,Result.andThen_ok,Sem.run_pure]
 ·cases d:Ro C t g i r b with
  |none=>rw[d]at a;cases a
  |some D=>
   rw[d]at a;cases a;have⟨m,k⟩:=T1 (w:=w) q c e d .neq;refine⟨?_,.bool _⟩;rw[Sem.run_bind,k,Result.andThen_ok,y,Sem.run_bind,FD m,Result.andThen_ok,Sem.run_pure]
 cases a
def aex{a:UnOp}(c:dA ρ B H)(b:aUn a B=q' v):(Op.unary a H).run C.P w=.ok v w/\dA ρ v v:=by
 unfold aUn at b;split at b
 ·cases c;cases b;exact⟨rfl,.int _ _⟩
 ·cases c;cases b;exact⟨rfl,.bool _⟩
 cases b
def LZ(d:dA ρ B H)(c:oX B st=q' (.val v dy)):
  v=B/\dy=st/\H≠.pointer u'/\H≠.nilIface/\H≠.nilFunc/\∀n e b,H≠.func (.method n) e b:=by
 unfold oX at c;split at c<;>first|(obtain⟨rfl,rfl⟩:=dS c)|cases c
 all_goals cases d
 all_goals exact⟨rfl,rfl,(λa=>by cases a),(λa=>by cases a),(λa=>by cases a),(λ_ _ _ a=>by cases a)⟩
def AC(d:qb C){t:F'}(f:dA ρ B H)(a:iS C t B st=q' (.val v dy)):
  (Instr.makeInterface t H).run C.P w=.ok (.iface t H) w/\v=.iface t B/\dy=st/\dA ρ v (.iface t H):=by
 unfold iS at a;split at a
 ·rename_i ti e;split at a
  ·cases a
  rename_i b;obtain⟨rfl,rfl⟩:=dS a;refine⟨?_,Z,Z,.iface t f⟩;unfold Instr.makeInterface;rw[Sem.run_bind,fv d e,Result.andThen_ok];split
  ·rename_i c g;exact Y' g (b c)
  rfl
 cases a
theorem HE{C:eN}{a:Array Field}{c b:Nat}(e:iC C a J=q' (c,b)):∃d ti,a[J]?=q' d/\C.tt.get d.type=q' ti/\d.offset=c/\ti.size=b:=by
 all_goals grind [iC,cx]
def HF(g:qb C){t:F'}(q:dA ρ B H)(a:gW C t B J st=q' (.val v dy)):
  ∃e,(Instr.fieldAt t H J).run C.P w=.ok e w/\dA ρ v e/\dy=st:=by
 unfold gW at a;split at a
 ·rename_i ti b o j;obtain⟨s,n,rfl⟩:=ER q;split at a
  ·rename_i h i;split at a
   ·rename_i r k l;split at a
    ·rename_i c;obtain⟨rfl,rfl⟩:=dS a;obtain⟨u,p,m,f,rfl,rfl⟩:=HE l;have d:p.size≠0:=by have:=aiH.mp c;omega
     refine⟨.pointer (q' ⟨s.b,s.d+(o+u.offset),u'⟩),?_,.ptr n,Z⟩;simp only[Instr.fieldAt,Sem.run_bind,fv g j,i,Result.andThen_ok,m,Instr.sureAddr,Sem.run_pure,fieldPlace,jp g f,W' d,pQ,aiO]
    cases a
   cases a
  cases a
 cases a
theorem Ok(d:qb C){t:F'}(f:du ρ E F.toList)(a:Ft C t E J=q' B):
  ∃c,(part t F J).run C.P w=.ok c w/\dA ρ B c:=by
 unfold Ft at a;split at a
 ·rename_i ti e;split at a
  ·rename_i b;split at a
   ·rename_i g;cases a;refine⟨.agg (F.extract J (J+ti.size)),?_,.agg ?_⟩
    ·simp only[part,Sem.run_bind,EQ d e,b,Result.andThen_ok,c_,jp d e,Sem.run_pure]
    have:(F.extract J (J+ti.size)).toList=(F.toList.drop J).take ti.size:=by
     simp[aiR]
    rw[this];simpa using(f.drop J).take ti.size
   cases a
  rename_i b;rw[cx]at a;have⟨c,i,h⟩:=f.get a
  grind [wv]
 cases a
def Vx(e:qb C){t:F'}(b:dA ρ B H)(a:zs C t B J st=q' (.val v dy)):
  ∃d,(Instr.field t H J).run C.P w=.ok d w/\dA ρ v d/\dy=st:=by
 unfold zs at a;split at a
 ·rename_i ti m i;cases b with
  |agg b=>
   split at a
   ·rename_i f g;split at a
    ·rename_i k c;split at a
     ·rename_i o h;obtain⟨rfl,rfl⟩:=dS a;rw[cx,aiy]at c;have⟨j,n,l⟩:=Ok (w:=w) e b h;refine⟨j,?_,l,Z⟩;simp only[Instr.field,Sem.run_bind,fv e i,g,Result.andThen_ok,c,asAgg,Sem.run_pure,n]
     cases a
    cases a
   cases a
 cases a
def HG(f:qb C){t:F'}{u h:C'}(r:dA ρ B H)(hi:dA ρ u h)(a:iT C t B u st=q' (.val v dy)):
  ∃e,(Instr.indexAt t H h).run C.P w=.ok e w/\dA ρ v e/\dy=st:=by
 unfold iT at a;split at a
 ·rename_i ti b o len s z m j;split at a
  ·rename_i n i;split at a
   ·rename_i p g;split at a
    ·rename_i d;obtain⟨rfl,rfl⟩:=dS a;have l:=aiH.mp d;cases hi;cases r with
     |mc K D=>omega
     |@slice _ _ _ _ k x q G y=>
      refine⟨.pointer (q' ⟨x.b,x.d+(o+m*p.size),u'⟩),?_,.ptr q,Z⟩;have c:(0:Int)<=aiA m/\aiA m<(len:Int):=by simp;omega
      simp only[Instr.indexAt,asIntOf,Sem.run_bind,Sem.run_pure,fv f j,i,Result.andThen_ok,X' c,jp f g,pQ,aiO];simp
    cases a
   cases a
  cases a
 cases a
def Vy(d:qb C){t:F'}{y n:C'}(e:dA ρ B H)(hi:dA ρ y n)(a:we C t B y st=q' (.val v dy)):
  ∃i,(Instr.index t H n).run C.P w=.ok i w/\dA ρ v i/\dy=st:=by
 unfold we at a;split at a
 ·rename_i ti s q k g;split at a
  ·rename_i f;split at a
   ·rename_i b j;obtain⟨rfl,rfl⟩:=dS a;cases hi;cases e;rw[cx,aiy]at j;have m:s[k]?=q' b:=j;refine⟨.int .u8 b.toNat,?_,.int _ _,Z⟩;have o:(0:Int)<=aiA k:=by simp
    simp only[Instr.index,asIntOf,Sem.run_bind,Sem.run_pure,fv d g,f,Result.andThen_ok,X' o];simp[m]
   cases a
  cases a
 ·rename_i ti D q k g;split at a
  ·rename_i len r f;split at a
   ·rename_i G l;split at a
    ·rename_i h;split at a
     ·rename_i L x;obtain⟨rfl,rfl⟩:=dS a;cases hi;cases e with
      |agg e=>
       have p:=aiH.mp h;have⟨u,K,z⟩:=Ok (w:=w) d e x;refine⟨u,?_,z,Z⟩;have c:(0:Int)<=aiA k/\aiA k<(len:Int):=by simp;omega
       simp only[Instr.index,asIntOf,Sem.run_bind,Sem.run_pure,fv d g,f,Result.andThen_ok,X' c,jp d l];simpa using K
     cases a
    cases a
   cases a
  cases a
 cases a
def Ol(a:dA ρ B H)(b:rh B J st=q' (.val v dy)):
  ∃c,(Instr.extract H J).run C.P w=.ok c w/\dA ρ v c/\dy=st:=by
 unfold rh at b;split at b
 ·cases a with
  |tuple a=>
   split at b
   ·rename_i h d;obtain⟨rfl,rfl⟩:=dS b;rw[cx]at d;have⟨e,f,g⟩:=a.get d;rw[aiy]at f;exact⟨e,by simp[Instr.extract,f],g,Z⟩
   cases b
 cases b
theorem TQ{ti:TI}(b:ti.zero.all flat=A')(a:Oc ti.agg ti.zero=q' B)(ρ:Ren):dA ρ B B:=by
 unfold Oc at a;split at a
 ·cases a;exact .agg (kR b ρ)
 all_goals grind [wq]
def FF(hT:qb C){xt t:F'}(f:dA ρ B H)(h:ki C B t U st=q' (.val v dy)):
  ∃b,(Instr.typeAssert H xt t U).run C.P w=.ok b w/\dA ρ v b/\dy=st:=by
 unfold ki at h;split at h
 ·cases h
 rename_i ti ht;have⟨z,k,e⟩:=nU hT ht w;have hzm:=e.mk;split at h
 ·cases h
 rename_i i;have j:=fv hT ht w;split at h
 ·rename_i m l;cases f with
  |@iface _ _ d c=>
  split at h
  ·rename_i a;have:=ait a;subst this;obtain⟨rfl,rfl⟩:=dS h;cases U with
   |true=>
    refine⟨.tuple #[d,.bool A'],?_,.tuple (.cons c (.cons (.bool _) .nil)),Z⟩;unfold Instr.typeAssert
    simp_all
   |false=>
    refine⟨d,?_,c,Z⟩;unfold Instr.typeAssert
    simp_all
  rename_i a;have g:=aiG a;exact Je
 ·cases f;exact Je
 cases h
end
variable{Y:Array F'}
section
variable{C:eN} {w0:G'} {N0:Nat} {G:Nat->Prop} {ρ:Ren} {st dy:St} {w:G'} {v:C'}
def dQ.drewN(a:dQ w0 N0 G ρ st w)(b:Nat):dQ w0 N0 G ρ st {w with drawn:=b}:=a.YG ⟨rfl,rfl,rfl,aiE _,λ_ _=>rfl⟩
def L0(v:dQ w0 N0 G ρ st w)(e:dA ρ B H){es n:Nat}{xs:n_ C'}(c:zu B=q' n)(a:lq st es n B=q' xs)(k:Program):
  ∃d,(Builtin.lenOf H).run k w=.ok n w/\(Builtin.firstCells es n H).run k w=.ok d w/\du ρ xs d.toList:=by
 unfold zu at c;split at c
 ·rename_i l len m;cases c;cases e with
  |nS=>simp[lq]at a;subst a;exact⟨#[],rfl,rfl,.nil⟩
  |mc l t=>
   refine⟨#[],Z,?_,?_⟩
   ·simp[Builtin.firstCells,loadCells,loadCellsFrom]
   have⟨b,o,f⟩:=l;cases f with
   |some z=>simp[lq]at a
   |none=>
    simp only[lq,Nat.zero_mul]at a;have:=iJ a;cases xs with
    |nil=>exact .nil
    |cons y u=>simp at this
  |slice i h r=>
   simp only[lq]at a;have⟨g,x,q⟩:=v.read i a k;exact⟨g,Z,x,q⟩
 ·rename_i s;cases c;cases e;simp only[lq,Option.some.injEq]at a;subst a;refine⟨(s.extract 0 (j' s.data.toList)).data.map λb=>.int .u8 b.toNat,?_,Z,?_⟩
  ·show Result.ok s.size w=_;rw[size_data]
  have:(s.extract 0 (j' s.data.toList))=s:=by
   rw[<-size_data];exact ByteArray.extract_zero_size
  rw[this];simp only[ofBytes,List.take_length,Array.toList_map];generalize s.data.toList=p;induction p with
  |nil=>exact .nil
  |cons B p j=>exact .cons (.int _ _) j
 cases c
def zw(a:dQ w0 N0 G ρ st w){es et fo b o len n:Nat}{c:n_ C'}(d:st.get b=q' (.cells c es et fo)):dQ w0 N0 G ρ (jZ st es et fo b o len n c) w:=
 a.weaken rm (λ_ _ e=>mL e) (K2 a.wf (a.wf.lt _ _ d))
def sZ{es b o len d n:Nat}{xs:n_ C'}(e:¬len+n<=d)(a:gQ st es (q' ⟨b,o,u'⟩) len d n xs=q' (.val v dy)):
  ∃c et fo old,st.get b=q' (.cells c es et fo)/\hX st b o (len*es)=q' old/\v=.slice (q' ⟨st.n,0,u'⟩) (len+n) (len+n)/\dy=grown st es et fo b o len n c old xs:=by
 unfold gQ at a;have f:aiv (len+n) d=B':=by
  cases h:aiv (len+n) d with
  |false=>rfl
  |true=>exact Y' (ais h) e
 simp only[f]at a;split at a
 ·rename_i c k et fo j;split at a
  ·rename_i old g i;have:=ait g;subst this;obtain⟨rfl,rfl⟩:=dS a;exact⟨c,et,fo,old,j,i,Z,Z⟩
  cases a
 cases a
theorem CD(h:dQ w0 N0 G ρ st w){es len t f n:Nat}{K k:Option Addr}{xs:n_ C'}(ao:Program)(i:dA ρ (.slice K len t) (.slice k len f)) 
  (j:du ρ xs F.toList) (ag:j' xs=n*es) (W:xs.all gM=A') (g:gQ st es K len t n xs=q' (.val v dy)) (y:len+n<=f) (aM:0<es):
  ∃ah w',((match k with|some am=>storeCells (am.add (len*es)) F.toList|none=>pure ()):Sem Unit).run ao w=.ok () w'/\Kept w0 N0 G ρ dy v (.slice k (len+n) f) w' ah:=by
 by_cases E:len+n<=t
 ·have Y:aiv (len+n) t=A':=Nat.ble_eq_true_of_le E;unfold gQ at g;simp only[Y]at g;cases i with
  |nS=>
   obtain⟨rfl,rfl⟩:=dS g;have:n=0:=om;subst this;exact⟨ρ,w,Z,Ren.le_refl _,h,.nS⟩
  |mc am ax=>
   have N:n=0:=om;subst N;have ak:xs=[]:=by cases xs with|nil=>rfl|cons _ _=>simp at ag
   subst ak;have s:F.toList=[]:=by cases aa:F.toList with|nil=>rfl|cons _ _=>rw[aa]at j;cases j
   have⟨b,o,av⟩:=am;cases av with
   |some aV=>cases g
   |none=>obtain⟨rfl,rfl⟩:=dS g;exact⟨ρ,w,by rw[s];rfl,Ren.le_refl _,h,.mc _ _⟩
  |@slice b o _ _ _ l hl S P=>
   cases xs with
   |nil=>
    obtain⟨rfl,rfl⟩:=dS g;have s:F.toList=[]:=by cases aa:F.toList with|nil=>rfl|cons _ _=>rw[aa]at j;cases j
    exact⟨ρ,w,by rw[s];rfl,Ren.le_refl _,h,.slice hl S P⟩
   |cons aU aS=>
    simp only at g;split at g
    ·rename_i aJ az;obtain⟨rfl,rfl⟩:=dS g;have⟨w',ac,ab,_⟩:=h.write hl az j ao;refine⟨ρ,w',?_,Ren.le_refl _,ab,.slice hl S P⟩
     grind [pQ,aiO]
    cases g
 cases i with
 |nS=>omega
 |mc am ax=>omega
 |@slice b o _ _ _ l hl S P=>
  obtain⟨c,et,fo,old,hg,ac,rfl,rfl⟩:=sZ E g;have U:=zw (es:=es) (o:=o) (len:=len) (n:=n) h hg;have⟨aC,p,lo,hi,e,aj⟩:=h.obj _ _ _ hl hg;have ad:=aj.es;have aO:=aj.size;have M:=j.len;simp only[aiz]at M;have aA:(len+n)*es<=f*es:=aiB _ y;have ap:(len+n)*es=len*es+n*es:=aiM _ _ _;rw[ad]at P;obtain⟨w',ai,i⟩:=wj (P:=ao) F.toList w l.b (l.d+o+len*es) 0 aC p lo hi e (by simp;omega) (λaP aR aw=>aj.Rs aP (by simp at aw;omega)) (j.TY W);have⟨z,af,ay,al⟩:=i.here;have T:=h.Af _ _ hl;have aF:=h.K1;have an:=i.size;have aE:=iJ ac;obtain⟨aQ,aI,f0,aT,B,aD,rfl⟩:=qH ac;rw[hg]at B;cases B;refine⟨ρ.add st.n ⟨l.b,l.d+o,es,l.sz⟩,w',?_,?_,?_,?_⟩
  ·simp only[pQ];exact ai
  ·exact fb h.jr
  ·have N:(jZ st es et fo b o len n c).n=st.n:=rm;have C:=U.extend (dy:=grown st es et fo b o len n c ((c.drop o).take (len*es)) xs) (w':=w') (o:=.cells ((c.drop o).take (len*es)++xs) es et (fo+o)) (l:=⟨l.b,l.d+o,es,l.sz⟩)
    (by rw[N];rfl) (by intro x;rw[N];exact lS x) (Az h.wf hg) ⟨i.os,i.tape,i.output,om,λx j=>i.other x om⟩ (by simpa using T.2.1) (by simp;omega) ?_ ?_ ?_
   ·rw[N]at C;exact C
   ·intro x V O HC hgx;by_cases B5:V.b=l.b
    ·cases O with
     |dead=>trivial
     |cells J aB Q I=>
      have Ed:=(mL hgx).resolve_left (by intro e;cases e);have R:Q=et/\l.d+I=V.d+fo:=by
       by_cases hxb:x=b
       ·subst hxb;rw[hg]at Ed;cases Ed;rw[hl]at HC;cases HC;exact⟨Z,Z⟩
       have:=h.sep _ _ _ _ _ _ hl HC B5.symm hg Ed (λe=>hxb e.symm);exact⟨this.1.symm,this.2⟩
      obtain⟨rfl,au⟩:=R;have aK:=LU h.wf hg hgx;have⟨aN,aq,aL,aG,H,D⟩:=h.obj _ _ _ HC Ed;rw[B5,e]at H;cases H;rw[B5];refine⟨z,p,lo,hi,af,D.es,by rw[ay];exact D.size,D.fits,λX v a=>?_,D.Rs⟩;have ar:X<j' J:=by
       rcases aiK X (j' J) with q|q
       ·exact q
       rw[aiZ q]at a;cases a
      have⟨r,d,m⟩:=D.cell _ _ a;refine⟨r,?_,m⟩;rw[al,W' (by simp;omega)];exact d
     |_=>
      exact JB
    rw[i.other _ B5];exact U.obj _ _ _ HC hgx
   ·have L:=fb (l:=⟨l.b,l.d+o,es,l.sz⟩) U.jr;refine⟨z,p,lo,hi,af,Z,by simp;omega,?_,λX v a=>?_,aj.Rs⟩
    ·simp;omega
    have A:j' ((c.drop o).take (len*es))=len*es:=by simp;omega
    show ∃r,z[l.d+o+X]?=q' r/\_;rw[al];by_cases ae:X<len*es
    ·rw[List.getElem?_append_left om,ai2,X' ae,ai3]at a;have⟨r,d,m⟩:=aj.cell _ _ a;refine⟨r,?_,m.mono L⟩;rw[W' om,<-d];congr 1;omega
    rw[List.getElem?_append_right om,A]at a;have⟨r,d,m⟩:=j.get a;have aH:X-len*es<j' F.toList:=by
     rcases aiK (X-len*es) (j' F.toList) with q|q
     ·exact q
     rw[aiZ q]at d;cases d
    refine⟨r,?_,m.mono L⟩;rw[X' om,<-d];congr 1;omega
   intro x V O HC hgx B5;cases O with
   |dead=>trivial
   |cells J aB Q I=>
    have Ed:=(mL hgx).resolve_left (by intro e;cases e);show Q=et/\V.d+(fo+o)=l.d+o+I;by_cases hxb:x=b
    ·subst hxb;rw[hg]at Ed;cases Ed;rw[hl]at HC;cases HC;exact⟨Z,om⟩
    have:=h.sep _ _ _ _ _ _ hl HC B5.symm hg Ed (λe=>hxb e.symm);exact⟨this.1.symm,by have:=this.2;omega⟩
   |_=>
    exact JB
  have u:dA (ρ.add st.n ⟨l.b,l.d+o,es,l.sz⟩) (.slice (q' ⟨st.n,0,u'⟩) (len+n) (len+n)) (.slice (q' ⟨l.b,l.d+o+0,u'⟩) (len+n) f):=
   .slice (l:=⟨l.b,l.d+o,es,l.sz⟩) (dG _ _ _) y (by simp;omega)
  exact u
theorem T3{a b:Nat}(d:¬a<=b):aiv a b=B':=by
 cases c:aiv a b with
 |false=>rfl
 |true=>exact Y' (ais c) d
theorem L1(L:dQ w0 N0 G ρ st w){es len y k n:Nat}{t q:Option Addr}{xs:n_ C'}(ap:Program)(X:dA ρ (.slice t len y) (.slice q len k)) 
  (Y:du ρ xs F.toList) (al:j' xs=n*es) (z:gQ st es t len y n xs=q' (.val v dy)) (af:k<len+n) (f:F'):
  ∃old,(Builtin.firstCells es len (.slice q len k)).run ap w=.ok old w/\∀(d:Array C') (a:Nat),len+n<=a->d.size=(a-(len+n))*es->
   ∃s,Kept w0 N0 G ρ dy v (.slice (q' ⟨w.heap.size,0,u'⟩) (len+n) a) {w with heap:=w.heap.push (.cells (old++F++d) f)} s:=by
 have B:=Y.len;simp only[aiz]at B;have p:∀(stK:St) (ae ag:Nat) (e:n_ C') (old d:Array C') (a:Nat) (i:St),dQ w0 N0 G ρ stK w->stK.n=st.n->i.n=st.n+1->(∀D,i.get D=if D=st.n then q' (.cells (e++xs) es ae ag)else stK.get D)->WF i->
   du ρ e old.toList->j' e=len*es->len+n<=a->d.size=(a-(len+n))*es->
   ∃s,Kept w0 N0 G ρ i (.slice (q' ⟨st.n,0,u'⟩) (len+n) (len+n)) (.slice (q' ⟨w.heap.size,0,u'⟩) (len+n) a) {w with heap:=w.heap.push (.cells (old++F++d) f)} s:=by
  intro stK ae ag e old d a i m N ao S V x P W an;have I:=x.len;simp only[aiz]at I;have ah:a*es=(len+n)*es+(a-(len+n))*es:=by rw[<-aiM];congr 1;omega
  have ab:(len+n)*es=len*es+n*es:=aiM _ _ _;have T:(old++F++d).size=a*es:=by simp;omega
  have H:=L.K1;have r:∀J,J<w.heap.size->(w.heap.push (.cells (old++F++d) f))[J]?=w.heap[J]?:=λJ m=>by rw[ai1,W' om]
  have C:=m.extend (dy:=i) (w':={w with heap:=w.heap.push (.cells (old++F++d) f)}) (o:=.cells (e++xs) es ae ag) (l:=⟨w.heap.size,0,es,a*es⟩)
   om (by intro D;rw[N];exact S D) V ⟨rfl,rfl,rfl,by simp,λJ m=>r J om⟩ H sm
   (λD R ai h j=>by rw[show({w with heap:=w.heap.push (.cells (old++F++d) f)}:G').heap[R.b]?=w.heap[R.b]? from r _ (m.Af _ _ h).2.2];exact m.obj _ _ _ h j)
   ?_ (λD R ai h j ak=>by have:=(m.Af _ _ h).2.2;simp at ak;omega)
  ·rw[N]at C;refine⟨_,fb L.jr,C,?_⟩;exact .slice (l:=⟨w.heap.size,0,es,a*es⟩) (dG _ _ _) W sm
  have E:=fb (l:=⟨w.heap.size,0,es,a*es⟩) m.jr;refine⟨old++F++d,f,0,0,by simp,Z,T,?_,λaw v Q=>?_,λaw _ av=>om⟩
  ·simp;omega
  have⟨ad,am,O⟩:=(x.append Y).get Q;refine⟨ad,?_,O.mono E⟩
  grind
 have g:¬len+n<=y:=by cases X<;>omega
 cases X with
 |nS=>
  unfold gQ at z;have A:aiv (0+n) 0=B':=T3 g;simp only[A]at z;obtain⟨rfl,rfl⟩:=dS z;refine⟨#[],Z,λd a h j=>?_⟩;have:=p st st.n 0 [] #[] d a (st.new (.cells xs es st.n 0)) L rfl rfl (λD=>by simpa using dT st _ D) (L.wf.new rfl) .nil sm h j;simpa using this
 |mc aq au=>
  have⟨b,o,ac⟩:=aq;cases ac with
  |some ay=>
   grind [gQ,T3]
  |none=>
   obtain⟨c,et,fo,e,u,K,rfl,rfl⟩:=sZ g z;have P:=iJ K;have M:e=[]:=by cases e with|nil=>rfl|cons _ _=>simp at P
   subst M;refine⟨#[],by simp[Builtin.firstCells,loadCells,loadCellsFrom],λd a h j=>?_⟩;exact p _ et (fo+o) [] #[] d a _ (zw L u) rm Z lS (Az L.wf u) .nil sm h j
 |@slice b o _ _ _ l aj ax ar=>
  obtain⟨c,et,fo,e,u,K,rfl,rfl⟩:=sZ g z;have⟨old,U,aa⟩:=L.read aj K ap;refine⟨old,U,λd a h j=>?_⟩;exact p _ et (fo+o) e old d a _ (zw L u) rm Z lS (Az L.wf u) aa (iJ K) h j
theorem Vz(a:Nat):∀(b c:Nat),c<2*a+192->Builtin.growBy a b c<2*a+193:=by
 intro b;induction b with
 |zero=>intro c e;simp[Builtin.growBy];omega
 |succ b d=>
  intro c e;simp only[Builtin.growBy];split
  ·omega
  exact d _ om
theorem RB{a c:Nat}(b:c<a):Builtin.nextslicecap a c<=2*a+192:=by
 unfold Builtin.nextslicecap;all_goals grind [Vz]
theorem RC(g:qb C)(ar:dQ w0 N0 G ρ st w){ty:F'}(d:du ρ E F.toList)(c:qF C Y.toList E st=q' (.val v dy)):
  uD w0 N0 G ρ dy v ((Builtin.append_ Y ty F).run C.P w):=by
 obtain⟨Y⟩:=Y;obtain⟨F⟩:=F;unfold qF at c;split at c
 ·rename_i H O s aU V;simp only at V d;subst V;cases d with
  |@cons _ aH _ _ M d=>
  cases d with
  |@cons _ U _ _ B d=>
  cases d;split at c
  ·rename_i ti aL aF len aN R z;split at c
   ·rename_i e an;split at c
    ·rename_i i h;split at c
     ·cases c
     rename_i o;split at c
     ·cases c
     rename_i n X;split at c
     ·cases c
     rename_i xs r;split at c
     ·rename_i l;simp only[aiw]at l;have⟨⟨⟨⟨⟨aA,aw⟩,aB⟩,aG⟩,aK⟩,aD⟩:=l;have al:=aiH.mp aA;have D:=ait aw;have L:=ais aG;have y:=ais aK;have ac:=ait aD;unfold en at L y;have ae:∃b a,aH=.slice b len a:=by cases M<;>exact⟨_,_,rfl⟩
      obtain⟨b,a,rfl⟩:=ae;have ak:(⟨[H,O]⟩:Array F')[0]?=q' H:=rfl;have aj:(⟨[H,O]⟩:Array F')[1]?=q' O:=rfl;have aa:(⟨[.slice b len a,U]⟩:Array C')[0]?=q' (.slice b len a):=rfl;have ah:(⟨[.slice b len a,U]⟩:Array C')[1]?=q' U:=rfl;by_cases j:len+n<=a
      ·have⟨ap,Q,J,W⟩:=L0 ar B X r C.P;have⟨q,aI,m,k⟩:=CD ar C.P M W D aB c j al;refine⟨q,.slice b (len+n) a,aI,?_,k⟩;simp only[Builtin.append_,ak,aj,aa,ah];rw[ct _ (fv g R w)];simp only[an];rw[ct _ (jp g h w),ct _ (fv g z w)];split
       ·grind
       rw[ct _ (Sem.run_pure (P:=C.P) (w:=w) B')];simp only[aix,b_];rw[ct _ Q];simp only[X' j,aiS,c_];rw[ct _ J];cases b with
       |none=>simp only[Sem.run_pure]at m⊢;cases m;rfl
       |some aT=>simp only at m⊢;rw[ct _ m,Sem.run_pure]
      have K:a<len+n:=om;have aJ:(Question.appendCap (len+n) a e).forced=B':=rfl;have⟨aC,p,ab⟩:=K3 g h w;have S:(typeInfo e).run C.P {w with drawn:=w.drawn+1}=.ok aC {w with drawn:=w.drawn+1}:=by
       have⟨aE,aS,t,_⟩:=g.abL _ _ h;have ag:(typeInfo e).run C.P w=.ok aE w:=by simp[typeInfo,t]
       rw[p]at ag;cases ag;simp[typeInfo,t]
      have ao:=ar.drewN (w.drawn+1);have⟨ap,aO,J,W⟩:=L0 ao B X r C.P;have⟨au,Q,_,_⟩:=L0 ar B X r C.P;have⟨old,ax,az⟩:=L1 ao C.P M W D c K e;have⟨aM,av,ad⟩:=nU g h {w with drawn:=w.drawn+1};have af:aM.cells.size=i.size:=by rw[<-ac,<-ad.cells];simp
      generalize N:(Question.appendCap (len+n) a e).cut (w.tape w.drawn (Question.appendCap (len+n) a e))=f;have x:len+n<=f:=by rw[<-N];exact Nat.le_add_right _ _
      obtain⟨q,k⟩:=az (Builtin.zeroCells aM.cells (f-(len+n))) f x (by simp[Builtin.zeroCells,af]);refine⟨q,_,_,?_,k⟩;have A:¬(((len+n:Nat):Int)>IntKind.i64.max/\(B'=A'∨aC.bytes=0)):=by
       rintro⟨t,_⟩;simp[IntKind.max,IntKind.signed,IntKind.bits]at t;omega
      have ai:¬(Builtin.nextslicecap (len+n) a*aC.bytes>2^48):=by
       have ay:=RB K;rw[ab];have I:1<=len+n:=om;have aP:i.bytes<=1099511627776:=aiY (by have:=aiB i.bytes I;omega) L;have t:Builtin.nextslicecap (len+n) a*i.bytes<=(2*(len+n)+192)*i.bytes:=aiB _ ay;have aR:(2*(len+n)+192)*i.bytes=2*((len+n)*i.bytes)+192*i.bytes:=by rw[aiM,Nat.mul_assoc]
       omega
      have u:∀(aq:Nat) (T:G'),(askRoom aq).run C.P T=.ok () T:=by
       intro aq T;unfold askRoom;split
       ·rfl
       rfl
      have am:(choose (Question.appendCap (len+n) a e)).run C.P w=.ok f {w with drawn:=w.drawn+1}:=by
       simp only[choose,Sem.run,aJ,aix,b_,N]
      simp only[Builtin.append_,ak,aj,aa,ah];rw[ct _ (fv g R w)];simp only[an];rw[ct _ (jp g h w),ct _ (fv g z w)];split
      ·rename_i aq aQ;exact Y' aQ (o aq)
      rw[ct _ (Sem.run_pure (P:=C.P) (w:=w) B')];simp only[aix,b_];rw[ct _ Q];simp only[W' j,aiS,c_];rw[ct _ p];simp only[aix]at A;simp only[W' A];rw[ct _ p];simp only[W' ai];rw[ct _ am,ct _ S,ct _ (u _ _),ct _ ax,ct _ J,ct _ av,ct _ (jD _ _),Sem.run_pure]
     cases c
    cases c
   cases c
  cases c
 cases c
end
section
variable{C:eN} {w0:G'} {N0:Nat} {G:Nat->Prop} {ρ:Ren} {st dy:St} {w:G'} {v:C'}
def Om(a:cC)(ρ:Ren):du ρ (ofBytes a) (ofBytes a):=by
 induction a with
 |nil=>exact .nil
 |cons c a b=>exact .cons (.int _ _) b
def On{P:Program}{w:G'}:∀{c a:n_ C'} {g:cC} (_:du ρ c a) (_:uB c=q' g) (s:ByteArray),
  Sem.run P (forIn (m:=Sem) a s (fun(j:C') (k:ByteArray)=>match j with|Value.int .u8 n=>(pure (ForInStep.yield (k.push (UInt8.ofNat n.toNat))):Sem (ForInStep ByteArray))|_=>do(stuck "bytesToString: byte expected" :Sem PUnit);pure (ForInStep.yield k))) w=Result.ok ⟨⟨s.data.toList++g⟩⟩ w:=by
 intro c;induction c with
 |nil=>intro a g e f s;cases e;simp[uB]at f;subst f;simp
 |cons j c m=>
  intro a g e f s;cases e with
  |@cons _ p _ i h e=>
   simp only[uB]at f;split at f
   ·rename_i b o d l;cases f;unfold toByte at d;split at d
    ·rename_i n;cases d;cases h
     simp_all
    cases d
   cases f
theorem Oo(K:qb C)(A:dQ w0 N0 G ρ st w){s ab:F'}(L:dA ρ B H)(d:jY C s ab B st=q' (.val v dy)):uD w0 N0 G ρ dy v ((convert s ab H).run C.P w):=by
 unfold jY at d;split at d
 ·rename_i ah af Y T;have i:=fv K Y w;have j:=fv K T w;split at d
  ·rename_i ae al ac n m k;obtain⟨rfl,rfl⟩:=dS d;cases L;refine⟨ρ,_,w,?_,Ren.le_refl _,A,.int _ _⟩;unfold convert;rw[ct _ i,ct _ j,m,k];rfl
  ·rename_i y f m k;split at d
   ·rename_i W t;split at d
    ·rename_i V;obtain⟨rfl,rfl⟩:=dS d;cases L;have h:=fv K t w;rw[V]at h;generalize P:(Question.appendCap f.size 0 y).cut (w.tape w.drawn (Question.appendCap f.size 0 y))=a;have D:f.size<=a:=by rw[<-P];exact Nat.le_add_right _ _
     have Q:(choose (Question.appendCap f.size 0 y)).run C.P w=.ok a {w with drawn:=w.drawn+1}:=by
      simp only[choose,Sem.run,Question.forced,aix,b_,P]
     have U:=A.drewN (w.drawn+1);generalize g:(f.data.map λb=>(.int .u8 b.toNat:C'))++Array.replicate (a-f.size) (.int .u8 0:C')=e;have F:e.size=a:=by
      rw[<-g];simp;omega
     have M:j' f.data.toList=f.size:=(size_data f).symm;refine⟨ρ.add st.n ⟨w.heap.size,0,1,e.size⟩,.slice (q' ⟨w.heap.size,0,u'⟩) f.size a,{w with drawn:=w.drawn+1,heap:=w.heap.push (.cells e y (a,a+1))},?_,fb A.jr,?_,?_⟩
     ·unfold convert;rw[ct _ i,ct _ j,m,k];simp only;rw[ct _ h];simp only[Conv.stringToBytes];rw[ct _ Q];simp only[g];rw[ct _ (jD _ _)];have N:(markStringish ⟨w.heap.size,0,u'⟩).run C.P {w with drawn:=w.drawn+1,heap:=w.heap.push (.cells e y)}=.ok () {w with drawn:=w.drawn+1,heap:=w.heap.push (.cells e y (a,a+1))}:=by
       simp only[markStringish,Go.shape,Sem.run_bind,Sem.run,World.shape?,Array.getElem?_push_size,Result.andThen_ok,freeze,World.freeze,F,W' Nat.one_ne_zero];congr 1;congr 1;apply Array.ext_getElem?;intro S;simp only[ai0,ai1];by_cases hi:S=w.heap.size
       ·subst hi;simp
       rw[W' (λy=>hi y.symm),W' hi,W' hi]
      rw[ct _ N];rfl
     ·refine U.new Z Z ⟨e,y,a,a+1,Z,Z,Z,?_,λS v O=>?_,λS hi ag=>?_⟩
      ·simp[ofBytes];omega
      ·have E:S<j' f.data.toList:=by
        all_goals grind [ofBytes,aiK]
       refine⟨v,?_,?_⟩
       ·rw[<-g,Nat.zero_add,Array.getElem?_append_left (by simpa using E)];rw[<-aiy,Array.toList_map];exact O
       have:=(Om f.data.toList (ρ.add st.n ⟨w.heap.size,0,1,e.size⟩)).get O
       grind
      simp at hi;omega
     rw[M];refine .slice (l:=⟨w.heap.size,0,1,e.size⟩) (dG _ _ _) D (by simp;omega)
    cases d
   cases d
  ·rename_i y aj len aa m k;split at d
   ·rename_i W t;split at d
    ·rename_i V;have h:=fv K t w;rw[V]at h;split at d
     ·obtain⟨rfl,rfl⟩:=dS d;cases L;refine⟨ρ,.string .empty,w,?_,Ren.le_refl _,A,?_⟩
      ·unfold convert;rw[ct _ i,ct _ j,m,k];simp only;rw[ct _ h];rfl
      exact .string _
     ·rename_i b o;split at d
      ·rename_i c I;split at d
       ·rename_i l X;obtain⟨rfl,rfl⟩:=dS d;have z:∃r q p,H=.slice (q' r) len q/\(loadCells r len).run C.P w=.ok p w/\du ρ c p.toList:=by
         cases L with
         |mc _ r=>
          refine⟨r,0, #[],Z,by simp[loadCells,loadCellsFrom],?_⟩;have:=iJ I;cases c with
          |nil=>exact .nil
          |cons _ _=>simp at this
         |slice J ai ad=>
          have⟨p,x,u⟩:=A.read J I C.P;exact⟨_,_,p,Z,x,u⟩
        obtain⟨r,q,p,rfl,x,u⟩:=z;refine⟨ρ,.string ⟨l.toArray⟩,w,?_,Ren.le_refl _,A,.string _⟩;unfold convert;rw[ct _ i,ct _ j,m,k];simp only;rw[ct _ h];simp only[Conv.bytesToString];rw[ct _ x];have R:=On (P:=C.P) (w:=w) u X ByteArray.empty;rw[<-Array.forIn_toList];exact ct (λs=>(pure (.string s):Sem C')) R
       cases d
      cases d
     cases d
    cases d
   cases d
  cases d
 cases d
theorem HH(f:qb C)(O:dQ w0 N0 G ρ st w){t:F'}{l c y n:C'}(B:dA ρ l y)(I:dA ρ c n)(a:kp C t l c st=q' (.val v dy)):
  uD w0 N0 G ρ dy v ((Instr.makeSlice t y n).run C.P w):=by
 unfold kp at a;split at a
 ·rename_i ti l c L;split at a
  ·rename_i j D;split at a
   ·rename_i b e;split at a
    ·rename_i d;simp only[aiw]at d;have⟨⟨⟨⟨R,A⟩,E⟩,H⟩,F⟩:=d;have Q:=ais R;have N:=aiH.mp A;have M:=ais E;have J:=ais H;have r:=ait F;obtain⟨rfl,rfl⟩:=dS a;cases B;cases I;have⟨T,m,q⟩:=K3 f e w;have⟨K,V,i⟩:=nU f e w;have x:K.cells.size=b.size:=by rw[<-r,<-i.cells];simp
     have o:IntKind.i64.wrap (aiA l)=l:=Go.IntWalk.i64_in _ (by simp;omega);have u:IntKind.i64.wrap (aiA c)=c:=Go.IntWalk.i64_in _ (by simp;omega);have s:du ρ (yH b.zero c) ((aiQ (c*b.size)).map (K.cells[· %K.cells.size]!)).toList:=by
      rw[<-x,Fx,i.cells];exact kR (x5 (f.Dx _ _ e) c) ρ
     refine⟨_,.slice (q' ⟨w.heap.size,0,u'⟩) l c,_,?_,fb O.jr,O.row j s,?_⟩
     ·simp only[Instr.makeSlice];rw[ct _ (fv f L w)];simp only[D];rw[ct _ (show(asInt (.int .i64 (aiA l))).run C.P w=.ok (aiA l) w from rfl),ct _ (show(asInt (.int .i64 (aiA c))).run C.P w=.ok (aiA c) w from rfl),ct _ m];simp only[o,u,q];have z:((b.bytes:Int)*(c:Int))<=1099511627776:=by
       grind [Int.natCast_mul,Int.mul_comm]
      have k:¬((decide ((c:Int)<0)||decide ((b.bytes:Int)*(c:Int)>2^48))||decide ((l:Int)<0)||decide ((l:Int)>(c:Int)))=A':=by
       grind
      rw[W' k];have g:(askRoom ((c:Int).toNat*b.bytes)).run C.P w=.ok () w:=by
       unfold askRoom;split<;>rfl
      rw[ct _ g,ct _ (jp f e w)];simp only[Int.toNat_natCast];by_cases p:c*b.size=0
      ·have h:∀S:Nat->C',Array.map S (aiQ 0)= #[]:=λ_=>Array.eq_empty_of_size_eq_zero sm;simp only[p,c_,h];rw[ct _ (Sem.run_pure (P:=C.P) (w:=w) _),ct _ (jD _ _)];simp only[h,Sem.run_pure]
      simp only[W' p];rw[ct _ V,ct _ (Sem.run_pure (P:=C.P) (w:=w) _),ct _ (jD _ _)];rfl
     refine .slice (l:=⟨w.heap.size,0,b.size,_⟩) (dG _ _ _) (aiE _) ?_;simp
    cases a
   cases a
  cases a
 cases a
theorem nN{P:Program}{c b:Option C'}{j n:Nat}(i:(c=u'/\b=u')∨∃e a,c=q' e/\b=q' a/\dA ρ e a)(d:oZ c j=q' n):
  (c=u'/\b=u'/\n=j)∨∃a,b=q' a/\c.isSome=A'/\∀(g:Nat) (code:BoundsCode) (w:G'),n<=g->(Instr.sliceBound a g code).run P w=.ok n w:=by
 rcases i with⟨rfl,rfl⟩|⟨e,a,rfl,rfl,f⟩
 ·grind [oZ]
 unfold oZ at d;split at d
 ·rename_i h;cases h
 ·rename_i o g h;cases h;cases d;cases f;refine .inr ⟨_,Z,Z,λl code w k=>?_⟩;have m:(0:Int)<=aiA n/\aiA n<=(l:Int):=by simp;omega
  simp only[Instr.sliceBound,asIntOf]
  simp_all
 cases d
theorem FG{P:Program}{lo hi mx d b mx':Option C'}{isS:Bool}{len cap q l m:Nat} 
  (Ad:(lo=u'/\d=u')∨∃f a,lo=q' f/\d=q' a/\dA ρ f a) (e:(hi=u'/\b=u')∨∃f a,hi=q' f/\b=q' a/\dA ρ f a)
  (h:(mx=u'/\mx'=u')∨∃f a,mx=q' f/\mx'=q' a/\dA ρ f a) {abR:Nat} (e1:oZ lo 0=q' q) (i:oZ hi len=q' l) (p:oZ mx abR=q' m)
  (s:q<=l) (n:l<=m) (u:m<=abR) (r:abR<=cap) (t:hi.isSome=A'∨mx.isNone=A'):
  (Instr.sliceBounds isS len cap d b mx').run P w=.ok (q,l,if mx.isSome then m else cap) w:=by
 unfold Instr.sliceBounds;rcases nN (P:=P) h p with⟨rfl,rfl,rfl⟩|⟨v,rfl,g,j⟩
 ·rw[ct _ (Sem.run_pure (P:=P) (w:=w) _)];rcases nN (P:=P) e i with⟨rfl,rfl,rfl⟩|⟨o,rfl,k,c⟩
  ·rw[ct _ (Sem.run_pure (P:=P) (w:=w) _)];exact JP
  simp only;rw[ct _ (c _ _ _ om)];exact JP
 simp only;rw[ct _ (j _ _ _ om)];rcases nN (P:=P) e i with⟨rfl,rfl,rfl⟩|⟨o,rfl,k,c⟩
 ·all_goals grind [Option.isNone_iff_eq_none]
 simp only;rw[ct _ (c _ _ _ n)];rcases nN (P:=P) Ad e1 with⟨rfl,rfl,rfl⟩|⟨yl,rfl,hls,hlr⟩
 ·rw[ct _ (Sem.run_pure (P:=P) (w:=w) _),g];rfl
 simp_all
end
section
variable{C:eN} {w0:G'} {N0:Nat} {G:Nat->Prop} {ρ:Ren} {st dy:St} {w:G'} {v:C'}
def VA(b:ByteArray)(c a:Nat)(e:c<=a)(d:a<=j' b.data.toList):b.extract c a=Rm b c a:=by
 apply ByteArray.ext;rw[ByteArray.data_extract];apply Array.ext';simp only[Rm,Array.toList_extract,aiR];rw[List.drop_take]
theorem VB(ac:qb C)(aw:dQ w0 N0 G ρ st w){t:F'}{lo hi j q p g:Option C'}(D:dA ρ B H) 
  (M:(lo=u'/\q=u')∨∃E h,lo=q' E/\q=q' h/\dA ρ E h) (O:(hi=u'/\p=u')∨∃E h,hi=q' E/\p=q' h/\dA ρ E h)
  (S:(j=u'/\g=u')∨∃E h,j=q' E/\g=q' h/\dA ρ E h) (a:qc C t B lo hi j st=q' (.val v dy)):
  ∃ag,(Instr.sliceAt t H q p g).run C.P w=.ok ag w/\dA ρ v ag/\dy=st:=by
 unfold qc at a;split at a
 ·cases a
 rename_i ti ak;have aa:=fv ac ak w;split at a
 ·rename_i s I;split at a
  ·rename_i x Q R A;split at a
   ·rename_i e;simp only[aiw]at e;have J:=ais e.1;have V:=ais e.2;obtain⟨rfl,rfl⟩:=dS a;cases D;have ab:g=u':=by rcases S with⟨_,an⟩|⟨E,h,an,_,_⟩<;>first|exact an|cases an
    subst ab;refine⟨.string (s.extract x Q),?_,by rw[VA s x Q J V];exact .string _,Z⟩;have P:=FG (w:=w) (P:=C.P) (isS:=B') (cap:=s.size) M O (.inl ⟨rfl,rfl⟩) (mx:=u') (mx':=u') (abR:=s.size) R A (m:=s.size) rfl J (by rw[size_data];exact V) (aiE _) (aiE _) (.inr rfl);rw[size_data]at P;unfold Instr.sliceAt;rw[ct _ aa,I];simp only[Instr.slice]
    simp_all
   cases a
  cases a
 ·rename_i ar aI len N I;split at a
  ·rename_i m x Q T af R A ay;split at a
   ·cases a
   rename_i e;simp only[aiw,Bool.or_eq_true]at e;have⟨⟨⟨au,al⟩,av⟩,ax⟩:=e;have J:=ais au;have V:=ais al;have am:=ais av;have ah:∃l d,H=.slice l len d/\N<=d:=by cases D<;>first|exact⟨_,_,rfl,aiE _⟩|exact⟨_,_,rfl,by assumption⟩
   obtain⟨l,d,rfl,ai⟩:=ah;have P:=FG (w:=w) (P:=C.P) (isS:=A') (cap:=d) M O S R A ay J V am ai ax;have n:∀(f:Nat),(if j.isSome then T else d)=f->(Instr.sliceAt t (.slice l len d) q p g).run C.P w=.ok (.slice (if f=x then l else l.map (·.add (x*m.size))) (Q-x) (f-x)) w:=by
    intro f y;rw[y]at P;unfold Instr.sliceAt;rw[ct _ aa,I];simp only[Instr.slice];rw[ct _ aa,I];simp only;rw[ct _ P];simp only;rw[ct _ (jp ac af w)];rfl
   have Y:∀f,(if j.isSome then T else d)=f->T<=f/\(j.isSome=A'->f=T)/\f<=d:=by
    all_goals grind
   obtain⟨f,y⟩:∃f,(if j.isSome then T else d)=f:=⟨_,rfl⟩;have⟨aD,aB,U⟩:=Y f y;split at a
   ·split at a
    ·rename_i r;obtain⟨rfl,rfl⟩:=dS a;cases D;refine⟨_,n f y,?_,Z⟩;have:Q-x=0:=om;have ad:f-x=0:=om;rw[this,ad];have i:f=x:=om;rw[X' i];exact .nS
    cases a
   ·rename_i b o;split at a
    ·rename_i r;have r:=ait r;subst r;obtain⟨rfl,rfl⟩:=dS a;refine⟨_,n f y,?_,Z⟩;have i:x=0:=om;have k:Q=0:=om;subst i k;cases D with
     |mc _ l=>
      have:f=0:=om;subst this;simp only[c_,aiX];exact .mc _ _
     |@slice _ _ _ _ _ aC F ao z=>
      simp only[aiX,Nat.zero_mul];split
      ·rename_i W;subst W;exact .mc _ _
      simp only[aiP,pQ,Nat.add_zero];exact .slice F (Nat.zero_le _) (aiY (Nat.add_le_add_left (aiB _ U) _) z)
    split at a
    ·rename_i es u;split at a
     ·rename_i L;have L:=ait L;subst L;obtain⟨rfl,rfl⟩:=dS a;refine⟨_,n f y,?_,Z⟩;cases D with
      |mc _ l=>
       have i:x=0:=om;have:f=0:=om;subst this i;have k:Q=0:=om;have K:T=0:=om;subst k K;simp only[c_];exact .mc _ _
      |@slice _ _ _ _ _ aC F ao z=>
       have X:aC.es=m.size:=by
        unfold Vl at u;split at u
        ·rename_i c es aJ aK ap;cases u;have⟨aG,aj,az,aA,aH,aE⟩:=aw.obj _ _ _ F ap;exact aE.es
        cases u
       split
       ·rename_i W;subst W;have K:T-f=0:=om;have k:Q-f=0:=om;rw[K,k,Nat.sub_self];exact .mc _ _
       simp only[aiP,pQ,aiO];refine .slice F om ?_;rw[X]at z⊢;have R:f*m.size=x*m.size+(f-x)*m.size:=by rw[<-aiM];congr 1;omega
       have A:f*m.size<=d*m.size:=aiB _ U;omega
     cases a
    cases a
   cases a
  cases a
 cases a
end
section
variable{C:eN} {w0:G'} {N0:Nat} {G:Nat->Prop} {ρ:Ren} {st dy:St} {w:G'} {v:C'}
def uF{f b e g:C'}(c:dA ρ f e)(d:dA ρ b g)(a:lR Q f b=q' U):Instr.sameNow Q e g=q' U:=by
 unfold lR at a;split at a
 ·cases c;cases d;cases a;rfl
 ·split at a
  ·rename_i h;have:=uE.1 h;subst this;cases c;cases d;cases a;simp[Instr.sameNow,x6]
  cases a
 ·rename_i f b;cases c;cases d;cases a;show q' (f==b)=q' (pO f b);rw[beq_toListBytes,toList_data,toList_data,pO,si]
 cases a
def x7(h:dA ρ B H):∀{es a:n_ MapEntry} {f:Nat} {l:Option (Nat×C')},oH ρ es a->Dy Q B es f=q' l->
  (l=u'/\Instr.findNow Q H a f=q' u')∨∃k m c,l=q' (k,m)/\Instr.findNow Q H a f=q' (q' (k,c))/\dA ρ m c/\f<=k/\k<f+j' es:=by
 intro es;induction es with
 |nil=>
  intro a f l d e;cases a with
  |nil=>simp[Dy]at e;subst e;exact .inl ⟨rfl,rfl⟩
  |cons _ _=>exact d.elim
 |cons v es r=>
  intro a f l d e;cases a with
  |nil=>exact d.elim
  |cons q a=>
   have⟨i,o,u,p⟩:=d;simp only[Dy]at e;split at e
   ·rename_i b;cases e;refine .inr ⟨f,v.val,q.val,Z,?_,o,aiE _,by simp⟩;simp only[Instr.findNow,uF h i b]
   ·rename_i b;rcases r p e with⟨g,j⟩|⟨k,m,c,g,j,n,s,t⟩
    ·exact .inl ⟨g,by simp only[Instr.findNow,uF h i b];exact j⟩
    exact .inr ⟨k,m,c,g,by simp only[Instr.findNow,uF h i b];exact j,n,om,by simp only[aiD];omega⟩
   cases e
def oH.len:∀{c b:n_ MapEntry},oH ρ c b->j' c=j' b
 |[],[],_=>rfl
 |_::_,_::_,⟨_,_,_,d⟩=>by simp[oH.len d]
 |[],_::_,a=>a.elim
 |_::_,[],a=>a.elim
def ww(d:qb C){t:F'}{a:TI}(f:C.tt.get t=q' a)(b:tG a.desc=A')(h:Bool)(n:Nat)(g:C'):(Instr.checkKey h (n+1) t g).run C.P w=.ok () w:=by
 have e:=fv d f w;unfold Instr.checkKey;rw[ct _ e];cases c:a.desc<;>rw[c]at b<;>first|(simp[tG]at b;done)|rfl
def zx{w:G'}{o:Obj}(b:w.heap[J]?=q' o)(e:∀c d a,o≠.cells c d a):(getObj J).run O w=.ok o w:=by
 simp only[getObj,Sem.run,b]
def DB(b:qb C){t:F'}{a:TI}(c:C.tt.get t=q' a){es:n_ MapEntry}{d:Option (Nat×C')}(e:Instr.findNow a.desc B es 0=q' d):(Instr.findKey t B es).run C.P w=.ok d w:=by
 unfold Instr.findKey;rw[ct _ (fv b c w),e];rfl
theorem RD(e:qb C)(S:dQ w0 N0 G ρ st w){t:F'}{W d:C'}(E:dA ρ B H)(L:dA ρ W d)(a:sc C t B W U st=q' (.val v dy)):
  ∃D,(Instr.lookup t H d U).run C.P w=.ok D w/\dA ρ v D/\dy=st:=by
 unfold sc at a;split at a
 ·cases a
 rename_i ti K;split at a
 ·rename_i N O z;split at a
  ·rename_i R aa o p;split at a
   ·cases a
   rename_i A;split at a
   ·cases a
   rename_i es c;have⟨y,Q,V⟩:=nU e p w;have n:=V.mk;have k:∀(b:Array MapEntry) (i:Option (Nat×C')),Instr.findNow R.desc d b.toList 0=q' i->∀j:Bool,(do
     Instr.checkKey j 10000 N d
     match<-Instr.findKey N d b.toList with
     |some (_,v)=>do
      let B<-pure (v,A')
      pure (if U=A' then Value.tuple #[B.1,Value.bool B.2]else B.1)
     |none=>do
      let y<-zeroValue O
      let B<-pure (y,B')
      pure (if U=A' then Value.tuple #[B.1,Value.bool B.2]else B.1):Sem C').run C.P w=.ok (match i with|some (_,u)=>(if U=A' then .tuple #[u,.bool A']else u)|none=>(if U=A' then .tuple #[y,.bool B']else y)) w:=by
    intro b i l j;rw[ct _ (ww e o A _ 9999 _),ct _ (DB e o l)];cases i with
    |none=>simp only;rw[ct _ Q];rfl
    |some af=>rfl
   have x:∃b:Array MapEntry,oH ρ es b.toList/\∀i,Instr.findNow R.desc d b.toList 0=q' i->
     (Instr.lookup t H d U).run C.P w=.ok (match i with|some (_,u)=>(if U=A' then .tuple #[u,.bool A']else u)|none=>(if U=A' then .tuple #[y,.bool B']else y)) w:=by
    split at c
    ·cases c;cases E;refine⟨#[],tv,λi l=>?_⟩;unfold Instr.lookup;rw[ct _ (fv e K w)];simp only[z];rw[ct _ (Sem.run_pure (P:=C.P) (w:=w) _)];exact k #[] i l _
    ·rename_i ac;split at c
     ·rename_i X F J;cases c;cases E with
      |map T=>
       have⟨b,j,m⟩:=S.obj _ _ _ T J;refine⟨b,m,λi l=>?_⟩;unfold Instr.lookup;rw[ct _ (fv e K w)];simp only[z];rw[ct _ (zx j (by intro _ _ _ ab;cases ab))]
       grind
     cases c
    cases c
   have⟨b,g,h⟩:=x;split at a
   ·cases a
   ·rename_i ad ae s;obtain⟨rfl,rfl⟩:=dS a;rcases x7 L g s with⟨j,_⟩|⟨I,u,M,j,f,m,_⟩
    ·cases j
    cases j;refine⟨_,h _ f,?_,Z⟩;cases U
    ·exact m
    exact .tuple (.cons m (.cons (.bool _) .nil))
   rename_i s;split at a
   ·cases a
   rename_i Y q;rw[n]at q;cases q;obtain⟨rfl,rfl⟩:=dS a;rcases x7 L g s with⟨_,f⟩|⟨I,u,M,j,_⟩
   ·refine⟨_,h _ f,?_,Z⟩;have r:=TQ (e.Dx _ _ p) n ρ;cases U
    ·exact r
    exact .tuple (.cons r (.cons (.bool _) .nil))
   cases j
  cases a
 cases a
def dQ.YK(h:dQ w0 N0 G ρ st w){r:Nat}{l:Loc}{es:n_ MapEntry}{g:n_ MapEntry}{a:Array MapEntry}{d:Nat}(hl:ρ r=q' l)(hg:st.get r=q' (.map es J))(u:oH ρ g a.toList):
  dQ w0 N0 G ρ (st.put r (.map g d)) {w with heap:=w.heap.setIfInBounds l.b (.map a d)}:=by
 have n:=h.Af _ _ hl;have LN:∀q,q≠l.b->(w.heap.setIfInBounds l.b (.map a d))[q]?=w.heap[q]?:=λq s=>Array.getElem?_setIfInBounds_ne (λe=>s e.symm);have j:(w.heap.setIfInBounds l.b (.map a d))[l.b]?=q' (.map a d):=Array.getElem?_setIfInBounds_self_of_lt n.2.2;have Yq:∀t p k,ρ t=q' p->(st.put r (.map g d)).get t=q' k->p.b=l.b->t=r∨k=.dead:=by
  intro t p k v m B5;by_cases f:t=r
  ·exact .inl f
  rw[dH,W' f]at m;have:=h.sep _ _ _ _ _ _ hl v B5.symm hg m (λe=>f e.symm);cases k<;>first|exact .inr rfl|exact this.elim
 refine⟨⟨λb o hb=>?_,λb c e y z hb=>?_,h.wf.TX⟩,?_,by simpa using h.K1,h.Q8,λb i hb=>by have:=h.Af b i hb;exact⟨this.1,this.2.1,by simpa using this.2.2⟩,λb i o hb hgb=>?_,λb b' l1 x o1 o2 h1 h2 he g1 g2 EJ=>?_⟩
 ·exact KL
 ·rw[dH]at hb;split at hb
  ·cases hb
  exact h.wf.et _ _ _ _ _ hb
 ·exact h.below.trans ⟨Z,Z,Z,by simp,λq s=>LN q om⟩
 ·show Ax ρ i o (w.heap.setIfInBounds l.b (.map a d))[i.b]?;by_cases B5:i.b=l.b
  ·rcases Yq _ _ _ hb hgb B5 with rfl|rfl
   ·rw[dH,X' rfl]at hgb;cases hgb;rw[B5,j];exact⟨a,Z,u⟩
   trivial
  exact KU
 exact IV
theorem RE{l e:C'}(h:dA ρ B H)(f:dA ρ l e):∀{es:n_ MapEntry} {a:n_ MapEntry} {b:Nat},oH ρ es a->b<j' es->
  oH ρ (zt es b B l) (a.modify b λm=>{m with key:=H,val:=e}):=by
 intro es;induction es with
 |nil=>intro a b i hi;simp at hi
 |cons m es j=>
  intro a b i hi;cases a with
  |nil=>exact i.elim
  |cons n a=>
   have⟨k,g,c,d⟩:=i;cases b with
   |zero=>simp only[zt,List.modify_zero_cons];exact⟨h,f,c,d⟩
   |succ b=>simp only[zt,List.modify_succ_cons];exact⟨k,g,c,j d (by simpa using hi)⟩
def oH.append{d a b c:n_ MapEntry}(e:oH ρ d a)(k:oH ρ b c):oH ρ (d++b) (a++c):=by
 induction d generalizing a with
 |nil=>cases a with|nil=>exact k|cons _ _=>exact e.elim
 |cons m d f=>cases a with
  |nil=>exact e.elim
  |cons l a=>have⟨i,g,j,h⟩:=e;exact⟨i,g,j,f h⟩
theorem FH{w:G'}{o a:Obj}(d:w.heap[J]?=q' o)(e:∀c f b,o≠.cells c f b):(setObj J a).run O w=.ok () {w with heap:=w.heap.setIfInBounds J a}:=by
 simp only[setObj,Sem.run,d]
theorem L2{e b:C'}{es:n_ MapEntry}{a:Nat}(d:Instr.findNow Q e es J=q' (q' (a,B))):∃c,es[a-J]?=q' c/\Instr.sameNow Q e c.key=q' A'/\J<=a:=by
 induction es generalizing J with
 |nil=>simp[Instr.findNow]at d
 |cons c es f=>
  simp only[Instr.findNow]at d;all_goals grind
def YL{c b:C'}(a:Instr.sameNow Q c b=q' A')(f:Program)(w:G'):(Instr.keyThatStays b c).run f w=.ok c w:=by
 have e:Instr.sameBits 10000 b c=A':=by
  unfold Instr.sameNow at a;split at a
  ·split at a
   ·rename_i d;subst d;simp only[Option.some.injEq,beq_iff_eq]at a;subst a;show(_==_&&_==_)=A';simp
   cases a
  ·rename_i c b;simp only[Option.some.injEq]at a;rw[beq_toListBytes,beq_iff_eq]at a;show(b==c)=A';rw[beq_toListBytes,beq_iff_eq];exact a.symm
  ·simp only[Option.some.injEq,beq_iff_eq]at a;subst a;show(_==_)=A';simp
  cases a
 unfold Instr.keyThatStays;rw[X' e];rfl
theorem HD(m:qb C)(n:dQ w0 N0 G ρ st w){t:F'}{I d J f:C'}(E:dA ρ B H)(l:dA ρ I d)(A:dA ρ J f)(c:kq C t B I J st=q' (.val v dy)):
  ∃r,(Instr.mapUpdate t H d f).run C.P w=.ok () r/\dQ w0 N0 G ρ dy r/\v=mM/\dy.n=st.n:=by
 unfold kq at c;split at c
 ·rename_i ti X N;split at c
  ·rename_i Q T K;split at c
   ·rename_i P es a j k;cases E with
    |@map _ y p=>
    have⟨e,x,q⟩:=n.obj _ _ _ p k;split at c
    ·cases c
    rename_i u;have i:∀(z:Option (Nat×C')),Instr.findNow P.desc d e.toList 0=q' z->(Instr.mapUpdate t (.map (q' y.b)) d f).run C.P w=((match z with
      |some (D,_)=>do
       let key<-Instr.keyThatStays (((e[D]?).map (·.key)).getD d) d
       setObj y.b (.map (e.modify D λx=>{x with key,val:=f}) a)
      |none=>setObj y.b (.map (e.push {key:=d,val:=f,born:=a}) (a+1))):Sem Unit).run C.P w:=by
     intro z R;unfold Instr.mapUpdate;rw[ct _ (fv m N w)];simp only[K];rw[ct _ (zx x (by intro _ _ _ W;cases W))];simp only;rw[ct _ (ww m j u _ 9999 _),ct _ (DB m j R)];cases z<;>rfl
    split at c
    ·cases c
    ·rename_i D Y o;obtain⟨rfl,rfl⟩:=dS c;rcases x7 l q o with⟨h,_⟩|⟨O,U,V,h,g,M,_,F⟩
     ·cases h
     cases h;have⟨S,s,L,_⟩:=L2 (b:=d) g;rw[aiX,aiy]at s;refine⟨{w with heap:=w.heap.setIfInBounds y.b (.map (e.modify D λx=>{x with key:=d,val:=f}) a)},?_,?_,Z,Z⟩
     ·rw[i _ g];simp only[s,aiP,Option.getD_some];rw[ct _ (YL L C.P w)]
      grind [FH]
     refine n.YK p k ?_
     grind [Array.toList_modify,RE]
    rename_i o;obtain⟨rfl,rfl⟩:=dS c;rcases x7 l q o with⟨_,g⟩|⟨O,U,V,h,_⟩
    ·refine⟨{w with heap:=w.heap.setIfInBounds y.b (.map (e.push {key:=d,val:=f,born:=a}) (a+1))},?_,?_,Z,Z⟩
     ·rw[i _ g]
      grind [FH]
     refine n.YK p k ?_;rw[Array.toList_push];exact q.append ⟨l,A,Z,tv⟩
    cases h
   cases c
  cases c
 cases c
end
def qo(ρ:Ren)(b:H'->Option C')(a:H'->C'):Prop:=∀c v,b c=q' v->dA ρ v (a c)
def Oq(ρ:Ren)(t d:Target):Prop:=
 match t,d with
 |.collected h,.collected a=>∃f,ρ h=q' f/\a=f.b
 |.fn (.func g) c,.fn (.func e) b=>g=e/\du ρ c.toList b.toList
 |_,_=>False
structure af2 (ρ:Ren) (d d':J'):Prop where
 target:Oq ρ d.target d'.target
 args:du ρ d.args.toList d'.args.toList
structure L3 (C:eN):Prop where
 fn:∀f fi,C.ff.get f=q' fi->∃fn,C.P.funcs[f]?=q' fn/\fn.body=q' fi.body/\fn.ntmps=fi.nt/\fn.results.toList=fi.B1/\(fn.name== "runtime.NumGoroutine")=B'
def qp(C:eN):Prop:=∀c b v,C.ext c b=q' v->∀(ρ:Ren) (a:Array C') (w:G'),du ρ b a.toList->(callFunc c a).run C.P w=.ok (.value v) w/\dA ρ v v
def DC(C:eN)(w0:G')(N0:Nat)(G:Nat->Prop)(ρ:Ren)(st:St)(w:G')(h:AR)(d:Result Next):Prop:=
 match h with
 |.val v dy=>∃f c e,(d=.ok (.value c) e∨(d=.ok .skip e/\c=undef))/\Kept w0 N0 G ρ dy v c e f
 |.fJ v dy=>dy=st/\∃c,d=.halt (.panic c) w/\dA ρ v c
 |.enter k b=>∃a,d=.ok (.enter k a) w/\du ρ b a.toList
 |.yield l b=>∃i a,ρ l=q' i/\du ρ b a.toList/\d=(Instr.yield i.b a).run C.P w
 |.recover=>d=.ok .recover w
 |.defer j=>∃g,d=.ok (.defer g) w/\af2 ρ j g
section
variable{C:eN} {w0:G'} {N0:Nat} {G:Nat->Prop} {ρ:Ren} {st dy:St} {w:G'} {v:C'}
def abS(q:qb C)(u:dQ w0 N0 G ρ st w){ty:F'}(b:du ρ E F.toList)(a:CC C Y.toList E st=q' (.val v dy)):
  (Builtin.len_ Y ty F).run C.P w=.ok v w/\dA ρ v v/\dy=st:=by
 obtain⟨Y⟩:=Y;obtain⟨F⟩:=F;unfold CC at a;split at a
 ·rename_i t k K xs j;simp only at j b;subst j;cases b with
  |@cons _ m _ l h b=>
  have i:(⟨t::k⟩:Array F')[0]?=q' t:=rfl;have e:(⟨m::l⟩:Array C')[0]?=q' m:=rfl;split at a
  ·cases a
  rename_i ti o;have g:=fv q o w;split at a
  ·rename_i s d;obtain⟨rfl,rfl⟩:=dS a;cases h;refine⟨?_,.int _ _,Z⟩;simp only[Builtin.len_,i,e];rw[ct _ g,d];show Result.ok (goInt s.size) w=_;rw[size_data];rfl
  ·rename_i n y c d;obtain⟨rfl,rfl⟩:=dS a;refine⟨?_,.int _ _,Z⟩;simp only[Builtin.len_,i,e];rw[ct _ g,d];cases h<;>rfl
  ·rename_i d;obtain⟨rfl,rfl⟩:=dS a;refine⟨?_,.int _ _,Z⟩;simp only[Builtin.len_,i,e];rw[ct _ g,d];cases h;rfl
  ·rename_i D d;split at a
   ·rename_i es z p;obtain⟨rfl,rfl⟩:=dS a;cases h with
    |map f=>
     have⟨x,y,r⟩:=u.obj _ _ _ f p;refine⟨?_,.int _ _,Z⟩;simp only[Builtin.len_,i,e];rw[ct _ g,d];simp only;rw[ct _ (zx y (by intro _ _ _ u;cases u))];have f:=r.len;simp only[aiz]at f;rw[f];rfl
   cases a
  cases a
 cases a
def DD{P:Program}(c:Bool):∀{i d:n_ C'} {k e h:C'},du ρ i d->dA ρ k e->sd c k i=q' h->(d.foldlM (cond c Builtin.max2 Builtin.min2) e).run P w=.ok h w/\dA ρ h h:=by
 intro i;induction i with
 |nil=>
  intro d k e h a g f;cases a;cases g<;>simp only[sd,Option.some.injEq]at f<;>first|cases f;done|(subst f;exact⟨rfl,.int _ _⟩)
 |cons s i n=>
  intro d k e h a g f;cases a with
  |cons l a=>
   unfold sd at f;split at f
   ·rename_i o;cases o
   ·rename_i q j p b r o;cases o;cases g;cases l;have:=n a (.int _ _) f;refine⟨?_,this.2⟩;rw[List.foldlM_cons];have m:(cond c Builtin.max2 Builtin.min2 (.int q j) (.int p b)).run P w=.ok (.int q (if(match c with|true=>tF j b|false=>tF b j)then b else j)) w:=by
     cases c<;>simp only[K4,j_]<;>rfl
    rw[ct _ m];exact this.1
   cases f
end
end Go.AM
