/- Part of the proof. -/
import Derived.Test.YtdocmpeionacbaaGreatDoorKAm
set_option linter.all false
set_option maxHeartbeats 16000000
set_option maxRecDepth 100000
open Int renaming ofNat->ais,ofNat_eq_natCast->ait
open List renaming length_map->aiu,drop->aiw,take->aix,length_append->aiz,length_drop->aiC,length_cons->aiD,length_take->aiE,map->aiG,take_of_length_le->aiI,length_nil->aiK,flatMap_cons->aiL,getElem?_eq_getElem->aiM,map_append->aiN,take_add_one->aiP,eq_nil_of_length_eq_zero->aiQ,map_take->aiR,map_drop->aiS,map_cons->aiT,map_map->aiW,filterMap_cons->aiX,zip_cons_cons->aiY,mem_singleton->aiZ,length->j'
open Nat renaming le_refl->aiv,succ_ne_zero->aiy,zero_add->aiA,le_of_eq->aiB,beq->aiF,zero_le->aiH,le_trans->aiU,ble_eq_true_of_le->aiV
open Bool renaming and_eq_true->aiJ,false_eq_true->aiO,true->A',false->B'
open Option renaming some->q'
namespace Go.Proofs.YtdocmpeionacbaaGreatDoor
open Go.AM Go.VM
variable{u:dt->VS->Prop} {H:VS}
def Aa(a:n_ FE)(b:Nat)(m:b=j' a)(j:b<4294967296)(l:Nat)(e:nth H l=q' (.row 7 (rows a)))(h:∀f,u (.ret (.d (.ps f 0 1 b (eY (a.map FE.n))))) H):
  b7 C cm l7 [.ms l 7 0 b b] H u:=by
 refine vb (fk:=[.ms 0 7 0 b b]) (P:=λi d=>d=rows a/\∃f,i=.ret (.d (.ps f 0 1 b (eY (a.map FE.n))))) ((QI a b m j).mono λi n k=>?_) l e (sL a) Z Z (λi d k=>?_)
 ·obtain⟨rfl,f,rfl⟩:=k;exact⟨rows a,Z,Z,sL a,Z,f,Z⟩
 obtain⟨rfl,f,rfl⟩:=k;rw[rM e];exact h f
def QJ(R:Rd)(w:R.Wf)(h:Nat->PR Ty)(i:Nat)(ht:yZ h R i)(x:RS)(hx:x.e≠0)(hp:x.p<j' R.ts)(e d:cC)(b:Bool)(g:u (.ret (.dP [.d .cu,x.v R])) H):b7 C cm k7 [x.v R,cv e,cv d,cj b] H u:=by
 refine cI ?_ Z Z g;refine cD ?_;refine cL R x d hp ?_;rw[ea hx];refine ck.loop ?_;refine dv R w x 1 hp ?_;rw[nE hx,RS.dq,iF hx,W' dc];refine Aa [] 0 Z dc 2 Z (λj=>?_);refine iG [] [] j 0 dc ?_;cases b with
 |false=>
  exact Jt
 |true=>
  refine cL R x [63] hp ?_;rw[ea hx];exact Jt
def ag3(e:Rd)(h:PR (n_ oK))(f:dt):Prop:=match h with
 |.ok i d=>∃b,uz i b/\f=.ret (.dP [.d b,(cq d).v e])
 |.bad a g=>g≠0/\∃b d,d<j' e.ts/\f=.ret (.dP [.d b,(RS.mk d a g).v e])
def aib:Nat->Bool:=λa=>aiF a 69||aiF a 1000012||aiF a 1000017
def rfS(b:Rd)(d:Nat)(a:n_ FE):VS:=[.box [.d (.ps b.b 0 3 b.cap (b.ts.map pn)),cl d,cl 0,cl 0],.box y0,.row 7 (rows a)]
def rfT(d b:cC)(a:Bool)(e:Nat):Tm:=[(1,cv d),(2,cv b),(3,cj a),(4,.bp 0 0),(8,.d .cu),(9,.bp 1 0),(10,.ms 2 7 0 e e)]
def rfQ(a:Rd)(b:Nat):n_ V:=[.d (.ps a.b 0 3 a.cap (a.ts.map pn)),cl b,cl 0,cl 0]
def rfF(a:cC)(b:Bool):n_ V:=[cv a,.d (.int .i64 0),.d (.str []),.d (.str []),.d .cu,.d .cu,cj b]
def aes(a d:cC)(b:Bool)(e f:Nat):Tm:=[(1,cv a),(2,cv d),(3,cj b),(4,.bp 0 0),(8,.d .cu),(9,.bp 1 0),(10,.ms 2 7 0 e e),(13,.bp 3 0),(14,.bp 4 0),(15,cl f)]
def abd(d b:cC)(a:Bool)(e:Nat):Tm:=[(1,cv d),(2,cv b),(3,cj a),(4,.bp 0 0),(8,.d .cu),(9,.bp 1 0),(10,.ms 2 7 0 e e),(13,.bp 3 0)]
variable{J c:Nat} {M:Nat->Bool->Prop} {O:Unit->Prop}
def BW{d:Bool}(a:c=0)(b:d=A')(e:O ()):Go.VM.Y0.match_1 (λ_ _=>Prop) c d O M:=by
 subst a b;exact e
theorem yD{a:Bool}(b:c≠0∨a=B')(d:M c a):Go.VM.Y0.match_1 (λ_ _=>Prop) c a O M:=by
 grind
def n0(a:c=J):aiF c J=A':=by subst a;exact gr c
theorem adm(d Z:n_ (n_ V))(e:n_ V)(a b:Nat)(g:j' Z=b)(h:a<=b):aix (0+j' (aix (a-0) (aiw (0+0) Z))+1) (aiw 0 (aix (0+j' (aix (a-0) (aiw (0+0) Z))) (aiw 0 (aix 0 (aiw 0 d)++aix (a-0) (aiw (0+0) Z)))++[e]))++aix (b-a) (aiw (0+a) Z)=aix a Z++e::aiw a Z:=by
 have f:aix (b-a) (aiw a Z)=aiw a Z:=aiI (by rw[aiC];omega)
 grind
def adn(d Z:n_ (n_ V))(e:n_ V)(a:Nat)(b:a=0):aix (0+1) (aiw 0 (aix 0 (aiw 0 d)++[e]))++Z=aix a Z++e::aiw a Z:=by
 subst b;rfl
theorem ado(a Z:n_ (n_ V))(d:n_ V)(b:Nat)(e:j' Z=0):aix 0 (aiw 0 a)++[d]=aix b Z++d::aiw b Z:=by
 grind [aiQ]
def adp(d Z:n_ (n_ V))(e:n_ V)(a:Nat)(b:a=j' Z):aix (0+j' Z) (aiw 0 (aix 0 (aiw 0 d)++Z))++[e]=aix a Z++e::aiw a Z:=by
 subst b;simp
theorem qM(a:c≠J):aiF c J=B':=by
 grind [Nat.eq_of_beq_eq_true]
def A6(b:J<c):Nat.ble c J=B':=by
 cases a:Nat.ble c J with
 |false=>rfl
 |true=>have:=Nat.le_of_ble_eq_true a;omega
variable{Q:n_ FE}
def Hj(a:c=j' Q):q' (V.ms J 7 0 c c)=q' (V.ms J 7 0 (j' Q) (j' Q)):=by rw[a]
variable{L:n_ (n_ V)} {W:Nat->Nat}
def BX(a:L=rows Q):q' (cX.row 7 L)=q' (eb W (.row 7 (rows Q))):=by
 rw[a];exact d_ q' (k9 W 7 (Q.map fe)).symm
def iB(a:c+J<=4294967296):(c+J)*112<=en/\c+J<=en:=by
 unfold en;omega
def NK{a:FE}(b:L=(rows Q).take (p9 (Q.map FE.n) a.n)++(fe a).map V.d::(rows Q).drop (p9 (Q.map FE.n) a.n)):L=rows (kI FE.n a Q):=by
 rw[b,NI];simp only[rows,aiN,aiT,aiR,aiS]
theorem IA(R:Rd)(w:R.Wf)(i:Nat->PR Ty)(p:Nat)(ae:p<j' R.ts)(ht:yZ i R p)(sep fin:cC)(av:sep≠fin)(lM:Bool):
  b7 C cm k7 [(cq p).v R,cv sep,cv fin,cj lM] [] λar aj=>aj=[]/\da ar=A'/\ag3 R (ek i R sep fin lM p) ar:=by
 have ap:=w.len;have ak:∀{t:Tok},cG t sep=A'->cG t fin=B':=by
  intro t an;simp only[cG,aiJ,j_]at an
  grind [cG]
 refine cB aib (λ_=>Z) ?_;refine cL R (cq p) fin ae ?_;rw[ga];cases an:cG (R.tok p) fin with
 |true=>
  refine cT R (cq p) (by show p<4294967296;omega) ?_;refine yC (i:=2) (es:=7) (els:=[]) Z Z (λaa=>?_);rw[ek,an,X' rfl];exact⟨_,.ps .nil,Z⟩
 |false=>
  refine ck.iter (λx:Nat×n_ oK×n_ FE=>rfT sep fin lM (j' x.2.2)) (λx=>rfS R x.1 x.2.2) (λx=>j' R.ts-x.1)
   (λx=>p<=x.1/\x.1<j' R.ts/\j' x.2.2<=x.1/\po (cz (·.1) x.2.1) x.2.2/\(x.2.1.map (·.1)).Nodup/\∃f,j' R.ts-x.1<=f/\ek i R sep fin lM p=(ep i R sep fin lM f x.2.1 x.1).map (cz (·.1))) ?_ (p,[],[]) ⟨aiv _,ae,aiH _,.nil,List.nodup_nil,j' R.ts,Nat.sub_le _ _,by rw[ek,an,W' dc]⟩
  rintro⟨q,b,xs⟩ ⟨N,hq,Q,z,r,f,af,he⟩;have N:p<=q:=N;have hq:q<j' R.ts:=hq;have Q:j' xs<=q:=Q;have z:po (cz (·.1) b) xs:=z;have r:(b.map (·.1)).Nodup:=r;have af:j' R.ts-q<=f:=af;have he:ek i R sep fin lM p=(ep i R sep fin lM f b q).map (cz (·.1)):=he;obtain⟨f,rfl⟩:∃k,f=k+1:=⟨f-1,om⟩;rw[ep]at he;have U:nJ (·.1) (cz (·.1) b):=ii (key:=λx:oK=>x.1) r;have X:∀s,s∈xs.map FE.n↔s∈b.map (·.1):=λs=>by
   rw[z.names];exact((dU (key:=λx:oK=>x.1) b).map _).mem_iff
  have Y:∀s,decide ((xs.map FE.n)[p9 (xs.map FE.n) s]?=q' s)=decide (s∈b.map (·.1)):=λs=>by
   rw[z.names,NJ U s,<-z.names];exact decide_eq_decide.2 (X s)
  refine dv R w (cq q) 1 hq ?_;by_cases e:(R.tok q).kind=1
  ·have Vg:q+1<j' R.ts:=w.go q _ (cn hq) om;rw[W' (λo=>o e)]at he;rw[lm e,RS.dq,gf,a_ e,X' rfl];refine Aa xs (j' xs) Z om 2 Z (λaa=>?_);refine iG (xs.map FE.n) (R.tok q).text aa (j' xs) (by simp;omega) ?_;rw[Y];by_cases v:(R.tok q).text∈b.map (·.1)
   ·rw[a_ v];rw[X' v]at he;refine kD R (cq (q+1)) (R.tok q).off 5 ?_;rw[show(cq (q+1)).fail (R.tok q).off 5=⟨q+1,(R.tok q).off,5⟩from rfl];cases lM with
    |false=>
     exact I8
    |true=>
     refine cL R _ [63] Vg ?_;rw[ea (aiy _)];exact I8
   rw[Z' v];rw[W' v]at he;apply de (ι:=Nat×Bool) (T:=λ_=>aes sep fin lM (j' xs) (p9 (xs.map FE.n) (R.tok q).text)) (S:=λB=>rfS R q xs++[.box (rfQ R B.1),.box (rfF (R.tok q).text B.2)])
    (I:=λB=>p<=B.1/\q<B.1/\B.1<j' R.ts/\ek i R sep fin lM p=(match cw R [[58]] B.1 with
     |.bad A ab=>.bad A ab
     |.ok _ q2=>match i q2 with
      |.bad A ab=>.bad A ab
      |.ok t q1=>if cG (R.tok q1) fin then .ok (b++[((R.tok q).text,t,B.2)]) (q1+1)else match cw R [sep] q1 with
       |.bad A ab=>.bad A ab
       |.ok _ q3=>ep i R sep fin lM f (b++[((R.tok q).text,t,B.2)]) q3:PR (n_ oK)).map (cz (·.1)))
   ·intro hC;rcases Bool.eq_false_or_eq_true lM with G|G;rotate_left
    ·simp only[show(lM&&cG (R.tok (q+1)) [63])=B' by rw[G];try rfl,aiO,b_]at he;refine cN ?_;exact Jg
    refine cN ?_;refine cL R (cq (q+1)) [63] Vg ?_;rw[ga];cases P:cG (R.tok (q+1)) [63]with
    |false=>
     refine cN ?_;simp only[show(lM&&cG (R.tok (q+1)) [63])=B' by rw[G,P];try rfl,aiO,b_]at he;exact Jg
    |true=>
     refine cN ?_;simp only[show(lM&&cG (R.tok (q+1)) [63])=A' by rw[G,P];try rfl,c_]at he;have d:=w.step Vg P;refine cT R (cq (q+1)) (by show q+1<4294967296;omega) ?_;refine ck.arr (fx:=aes sep fin lM (j' xs) (p9 (xs.map FE.n) (R.tok q).text)) (gA:=rfS R q xs++[.box (rfQ R (q+1+1)),.box (rfF (R.tok q).text A')]) .eS (hC ((q+1+1),A') ⟨by show p<=(q+1+1);omega,by show q<(q+1+1);omega,d,he⟩)
   rintro⟨q2,A⟩ ⟨L,K,d,he⟩;have L:p<=q2:=L;have K:q<q2:=K;have d:q2<j' R.ts:=d;dsimp only at he;refine cH R w (cq q2) [58] d ?_;cases D:cG (R.tok q2) [58]with
   |false=>
    rw[cw,D,W' dc]at he;dsimp only at he;rw[gd D];refine ht.err _ (aiy _) d _ _ (λk m n a f=>?_);refine cy ?_;refine cV.drop 0 ?_ ?_ ?_ ?_
    ·exact Z
    ·exact Z
    ·exact Z
    refine cV.now Z ⟨Z,Z,?_⟩;rw[he];exact⟨dc,_,_,d,Z⟩
   |true=>
    rw[cw,D,X' rfl,cw]at he;dsimp only at he;rw[fD D];have S:=w.step d D;refine ht.call (q2+1) om S _ _ (λt aC q1 J ac=>?_) (λau ab q1 k m n a ai J o Vg=>?_)
    ·obtain⟨k,m,ao,a,ai,rfl⟩:=ac.dL;have⟨aA,E⟩:=ht.lt (q2+1) _ _ om S J;rw[J]at he;dsimp only at he;have V:p9 (xs.map FE.n) (R.tok q).text<=j' xs:=by have:=NH (xs.map FE.n) (R.tok q).text;rwa[aiu]at this
     obtain⟨h,g⟩:∃h:FE,h=⟨(R.tok q).text,k,m,ao,a,ai,A,[],.cu⟩:=⟨_,rfl⟩;have M:po (cz (·.1) (b++[((R.tok q).text,t,A)])) (kI FE.n h xs):=by
      rw[xg];have:=z.ins (t:=t) (x:=h) (by rw[g];exact ac);rw[g]at this⊢;exact this
     have ag:((b++[((R.tok q).text,t,A)]).map (·.1)).Nodup:=by
      grind [List.nodup_append,aiZ]
     have j:j' (kI FE.n h xs)=j' xs+1:=(yi h xs).length_eq;apply de (ι:=Unit) (T:=λ_=>abd sep fin lM (j' (kI FE.n h xs))) (S:=λ_=>rfS R q (kI FE.n h xs)++[.box (rfQ R q1)]) (I:=λ_=>True)
     ·intro hC;have am:0+(p9 (xs.map FE.n) (R.tok q).text-0)<=j' (rows xs):=by rw[kG];omega
      have al:0+j' (((rows xs).drop (0+0)).take (p9 (xs.map FE.n) (R.tok q).text-0))<=4294967296:=by rw[aiE,aiC,kG];omega
      have u:j' (((rows xs).drop (0+0)).take (p9 (xs.map FE.n) (R.tok q).text-0))=p9 (xs.map FE.n) (R.tok q).text:=by rw[aiE,aiC,kG];omega
      have c:j' (rows xs)=j' xs:=kG xs;refine bZ Z (a6 ⟨aiH _,V,aiv _,aiH _,Z,Z,Z⟩ ?_);intro az;refine bZ Z (a6 ⟨V,aiv _,aiv _,aiH _,Z,Z,Z⟩ ?_);refine db ?_;by_cases l:p9 (xs.map FE.n) (R.tok q).text=0
      ·by_cases y:j' xs=0
       ·refine BW Z (n0 hW) ?_;refine a6 ⟨Z,Z,hW,aiv _,(iB hW).1,(iB hW).2⟩ ?_;refine b9 (n0 (by rw[kG];exact y)) ?_;refine cO ?_;refine a6 Z ?_;refine a6 ⟨Z,Z,hW,aiv _,(iB hW).1,(iB hW).2⟩ ?_;refine a7 Z (a7 (ej 0) ?_);refine cO ?_;refine a6 ⟨Z,Z,hW⟩ ?_;refine BW om (n0 hW) ?_;refine a6 ⟨Z,Z,hW,aiv _,(iB hW).1,(iB hW).2⟩ ?_;refine b9 (n0 (by rw[kG];exact y)) ?_;refine cO ?_;refine cO ?_;refine ck.arr (fx:=abd sep fin lM (j' (kI FE.n h xs))) (gA:=rfS R q (kI FE.n h xs)++[.box (rfQ R q1)]) ?_ (hC () trivial);exact .pick 2 [0,1,6,3] ⟨Z,Z,Z,Z,Z,Z,Hj (by simp only[j,aiz,aiE,aiC,aiu,kG,aiD,aiK,tL];omega),Z,tv⟩ Z Z Z Z Z dc ⟨Z,Z,Z,Z,BX (by refine NK ?_;rw[g];exact ado _ (rows xs) _ _ (c.trans y)),fU _ 7 _,Z,Z,tv⟩
       refine yD (.inr (qM hW)) ?_;refine a6 ⟨Z,Z,hW,aiv _,(iB hW).1,(iB hW).2⟩ ?_;refine b9 (n0 (by rw[u];exact l)) ?_;refine cO ?_;refine a6 Z ?_;refine a6 ⟨Z,Z,hW,aiv _,(iB hW).1,(iB hW).2⟩ ?_;refine a7 Z (a7 (ej 0) ?_);refine cO ?_;refine a6 ⟨Z,Z,hW⟩ ?_;refine BW om (n0 hW) ?_;refine a6 ⟨Z,Z,hW,aiv _,(iB hW).1,(iB hW).2⟩ ?_;refine a7 (qM (by rw[kG];exact y)) (a7 (A6 hW) ?_);refine cO ?_;refine cO ?_;refine ck.arr (fx:=abd sep fin lM (j' (kI FE.n h xs))) (gA:=rfS R q (kI FE.n h xs)++[.box (rfQ R q1)]) ?_ (hC () trivial);exact .pick 2 [0,1,7,3] ⟨Z,Z,Z,Z,Z,Z,Hj (by simp only[j,aiz,aiE,aiC,aiu,kG,aiD,aiK,tL];omega),Z,tv⟩ Z Z Z Z Z dc ⟨Z,Z,Z,Z,BX (by refine NK ?_;rw[g];exact adn _ (rows xs) _ _ l),fU _ 7 _,Z,Z,tv⟩
      by_cases T:p9 (xs.map FE.n) (R.tok q).text=j' xs
      ·refine BW Z (n0 hW) ?_;refine a6 ⟨Z,Z,hW,aiv _,(iB hW).1,(iB hW).2⟩ ?_;refine a7 (qM hW) (a7 (A6 hW) ?_);refine cO ?_;refine a6 Z ?_;refine a6 ⟨Z,Z,hW,aiv _,(iB hW).1,(iB hW).2⟩ ?_;refine a7 Z (a7 (ej _) ?_);refine cO ?_;refine a6 ⟨Z,Z,hW⟩ ?_;refine yD (.inl om) ?_;refine a6 ⟨Z,Z,hW,aiv _,(iB hW).1,(iB hW).2⟩ ?_;refine b9 (n0 hW) ?_;refine cO ?_;refine cO ?_;refine ck.arr (fx:=abd sep fin lM (j' (kI FE.n h xs))) (gA:=rfS R q (kI FE.n h xs)++[.box (rfQ R q1)]) ?_ (hC () trivial);exact .pick 2 [0,1,7,3] ⟨Z,Z,Z,Z,Z,Z,Hj (by simp only[j,aiz,aiE,aiC,aiu,kG,aiD,aiK,tL];omega),Z,tv⟩ Z Z Z Z Z dc ⟨Z,Z,Z,Z,BX (by refine NK ?_;rw[g];exact adp _ (rows xs) _ _ (T.trans c.symm)),fU _ 7 _,Z,Z,tv⟩
      refine yD (.inr (qM hW)) ?_;refine a6 ⟨Z,Z,hW,aiv _,(iB hW).1,(iB hW).2⟩ ?_;refine a7 (qM (by rw[u];exact l)) (a7 (A6 (by simp only[u];omega)) ?_);refine cO ?_;refine a6 Z ?_;refine a6 ⟨Z,Z,hW,aiv _,(iB hW).1,(iB hW).2⟩ ?_;refine a7 Z (a7 (ej _) ?_);refine cO ?_;refine a6 ⟨Z,Z,hW⟩ ?_;refine yD (.inl om) ?_;refine a6 ⟨Z,Z,hW,aiv _,(iB hW).1,(iB hW).2⟩ ?_;refine a7 (qM hW) (a7 (A6 hW) ?_);refine cO ?_;refine cO ?_;refine ck.arr (fx:=abd sep fin lM (j' (kI FE.n h xs))) (gA:=rfS R q (kI FE.n h xs)++[.box (rfQ R q1)]) ?_ (hC () trivial);exact .pick 2 [0,1,8,3] ⟨Z,Z,Z,Z,Z,Z,Hj (by simp only[j,aiz,aiE,aiC,aiu,kG,aiD,aiK,tL];omega),Z,tv⟩ Z Z Z Z Z dc ⟨Z,Z,Z,Z,BX (by refine NK ?_;rw[g];exact adm _ (rows xs) _ _ (j' xs) c V),fU _ 7 _,Z,Z,tv⟩
     intro _ _;refine cL R (cq q1) sep E ?_;rw[ga];cases F:cG (R.tok q1) sep with
     |true=>
      rw[ak F,W' dc,cw,X' F,cw]at he;dsimp only at he;refine cT R (cq q1) (by show q1<4294967296;omega) ?_;refine⟨(q1+1,b++[((R.tok q).text,t,A)],kI FE.n h xs),⟨by show p<=q1+1;omega,w.step E F,by show(kI FE.n h xs).length<=q1+1;rw[j];omega,M,ag,f,by show (j' R.ts)-(q1+1)<=f;omega,he⟩,by show (j' R.ts)-(q1+1)<j' R.ts-q;omega,?_,Z,Z⟩;exact .pick 2 [0,1,2] ⟨Z,Z,Z,Z,Z,Z,Hj Z,tv⟩ Z Z Z Z Z dc ⟨Z,Z,Z,Z,BX Z,fU _ 7 _,tv⟩
     |false=>
      refine cH R w (cq q1) fin E ?_;cases H:cG (R.tok q1) fin with
      |true=>
       rw[H,X' rfl]at he;rw[fD H];refine yC (i:=2) (es:=7) (els:=(kI FE.n h xs).map fe) Z (by rw[aiu]) (λaa=>?_);rw[he];exact⟨_,.ps M.fls,Z⟩
      |false=>
       rw[H,W' dc,cw,F,W' dc]at he;dsimp only at he;rw[gd H];refine yC (i:=2) (es:=7) (els:=(kI FE.n h xs).map fe) Z (by rw[aiu]) (λaa=>?_);rw[he];exact⟨dc,_,q1,E,Z⟩
    rw[J]at he;dsimp only at he;refine aZ (λW=>?_) (λW=>Y' (jq W) o);refine cy ?_;refine cV.drop 0 ?_ ?_ ?_ ?_
    ·exact Z
    ·exact Z
    ·exact Z
    refine cV.now Z ⟨Z,Z,?_⟩;rw[he];exact⟨o,_,q1,Vg,Z⟩
  rw[X' e]at he;rw[nb e,RS.dq,gf,Z' e,W' dc];refine Aa xs (j' xs) Z om 2 Z (λaa=>?_);refine iG (xs.map FE.n) [] aa (j' xs) (by simp;omega) ?_;generalize decide ((xs.map FE.n)[p9 (xs.map FE.n) []]?=q' [])=ax;apply aZ<;>intro W
  ·refine kD R _ (R.tok q).off 5 ?_;rw[nD (aiy _)];cases lM with
   |false=>
    exact xF
   |true=>
    refine cL R _ [63] hq ?_;rw[ea (aiy _)];exact xF
  cases lM with
  |false=>
   exact xF
  |true=>
   refine cL R _ [63] hq ?_;rw[ea (aiy _)];exact xF
variable{K:cC} {U:Tok}
def abe(d:S4 U)(a:cG U K=A')(b:K ∉ iu):U.kind=5/\U.text=K:=by
 rw[G2 d b,aiJ,j_,j_]at a;exact⟨a.2,a.1⟩
def afy(d:S4 U)(a:cG U K=A')(b:K.all isWord=B'):U.kind=6/\U.text=K:=by
 rw[Xf d b,aiJ,j_,j_]at a;exact⟨a.2,a.1⟩
theorem abf(b:cG U K=B')(a:U.kind=c)(d:c=5∨c=6):U.text≠K:=by
 grind [cG]
def aed:Nat->Bool:=λa=>aiF a 16||aiF a 43||aiF a 83
def QK(e:Rd)(n:e.Wf)(d:RS)(a:d.e≠0)(b:d.p<j' e.ts)(j:∀k h f i g,u (.ret (.dP [.agg [.d k,.d h,.d f,.d i,.d g],d.v e])) H):b7 C cm dh [d.v e] H u:=by
 refine b7.closed (P:=λl=>∃k h f i g,l=.ret (.dP [.agg [.d k,.d h,.d f,.d i,.d g],d.v e])) ?_ Z (λl ⟨k,h,f,i,g,m⟩=>by rw[m];exact j k h f i g);refine cB aed (λ_=>Z) ?_;intro o;iterate 5
  refine ck.loop ?_;refine bZ Z (cp _ Z ?_);refine db ?_;refine cL e d _ b ?_;rw[ea a];refine db ?_
 refine ck.loop ?_;iterate 4
  refine cL e d _ b ?_;rw[ea a]
 refine gh e d 1 b ?_;rw[iF a];refine dv e n d 2 b ?_;rw[nE a,RS.dq,iF a,W' dc];refine uv e d a b ?_;refine cy ?_;refine a8 0 ⟨Z,Z,_,_,_,_,_,Z⟩
def BY(f:Rd)(y:f.Wf)(g:Nat->PR Ty)(k:Nat)(x:k<j' f.ts)(s:yZ g f k)(a b:cC)(m:a≠b)(e:Bool) 
  (v:∀o i h,ek g f a b e k=.ok o h->uz o i->u (.ret (.dP [.d i,(cq h).v f])) H) (q:∀d j h i,ek g f a b e k=.bad d j->j≠0->h<j' f.ts->u (.ret (.dP [.d i,(RS.mk h d j).v f])) H):b7 C cm k7 [(cq k).v f,cv a,cv b,cj e] H u:=by
 refine b7.closed (IA f y g k x s a b m e) Z (λz n=>?_);unfold ag3 at n;split at n
 ·rename_i o h j;obtain⟨i,p,rfl⟩:=n;exact v o i h j p
 rename_i d w j;obtain⟨l,i,h,t,rfl⟩:=n;exact q d w h i j l t
variable{r:Nat->PR Ty} {E:Rd}
theorem abg(k:S4 U)(e:U.kind≠1)(d:U.kind≠2) 
  (q:cG U [97,110,121]=B') (s:cG U [110,111,110,101]=B') (i:cG U [105,110,116]=B') (j:cG U [98,111,111,108]=B') (h:cG U [116,101,120,116]=B')
  (n:cG U [108,105,115,116]=B') (o:cG U [123]=B') (p:cG U [60]=B') (m:cG U [102,110]=B'):vf r E U.kind U.text U.off c=.bad U.off 3:=by
 unfold vf;by_cases a:U.kind=5
 ·have l:=λf (g:cG U f=B')=>abf g a (.inl rfl)
  grind [GB]
 rw[W' a];by_cases b:U.kind=6
 ·have l:=λf (g:cG U f=B')=>abf g b (.inr rfl)
  grind
 rw[W' b,W' d,W' e]
def Tu(a:Rd)(g:a.Wf)(l:a.Kd)(e:Nat->PR Ty)(p:Nat)(d:p<j' a.ts)(h:yZ e a (p+1))(D:PR Ty)(he:vf e a (a.tok p).kind (a.tok p).text (a.tok p).off (p+1)=D):
  b7 C cm dh [(cq p).v a] [] λN F=>F=[]/\da N=A'/\aba a D N:=by
 have L:=g.len;refine cB aed (λ_=>Z) ?_;intro S;iterate 5
  refine ck.loop ?_;refine bZ Z (cp _ Z ?_);refine db ?_;refine cL a (cq p) _ d ?_;rw[ga];refine db ?_;apply aZ<;>intro r;have⟨s,o⟩:=abe (l p d) r dc;rw[s,o]at he;refine cT a (cq p) (by show p<4294967296;omega) ?_;exact a8 0 ⟨Z,Z,by rw[<-he];exact⟨_,.mk .nil .nil,rfl⟩⟩
 refine ck.loop ?_;refine cL a (cq p) _ d ?_;rw[ga];apply aZ<;>intro H
 ·have Q7:=g.step d H;have⟨s,o⟩:=abe (l p d) H dc;rw[s,o]at he;have he:(dE e a (p+1)).map (λI=>Ty.mk 5 [] [] [I] [])=D:=he;refine cT a (cq p) (by show p<4294967296;omega) ?_;refine Iz a g e (p+1) Q7 h (λI z q e3 hd=>?_) (λm w q k E B R c e3 EJ hq=>?_)
  ·obtain⟨k,E,B,R,c,rfl⟩:=hd.dL;rw[e3]at he;intro t;refine cy ?_;refine a8 0 ⟨Z,Z,by rw[<-he];exact⟨_,.mk (.ps (.cons hd .nil) (List.cons_ne_nil _ _)) .nil,rfl⟩⟩
  rw[e3]at he;intro t;exact xM
 iterate 2
  refine cL a (cq p) _ d ?_;rw[ga];apply aZ<;>intro u;have Q7:=g.step d u;have⟨s,o⟩:=afy (l p d) u dc;rw[s,o]at he
  replace he:PR.map _ (ek e a _ _ B' (p+1))=D:=he
  refine cT a (cq p) (by show p<4294967296;omega) ?_;refine BY a g e (p+1) Q7 h _ _ dc B' (λx z q e3 hd=>?_) (λm w q z e3 EJ hq=>?_)<;>rw[e3]at he<;>refine cy ?_
  ·exact a8 0 ⟨Z,Z,by rw[<-he];exact⟨_,.mk .nil hd,rfl⟩⟩
  exact a8 0 ⟨Z,Z,by rw[<-he];exact⟨EJ,_,_,_,_,_,q,hq,rfl⟩⟩
 refine cL a (cq p) _ d ?_;rw[ga];apply aZ<;>intro J
 ·have Q7:=g.step d J;have⟨s,o⟩:=abe (l p d) J dc;rw[s,o]at he;have he:(match cw a [[40]] (p+1)with
    |.bad V w=>.bad V w
    |.ok _ q1=>match ek e a [44] [41] A' q1 with
     |.bad V w=>.bad V w
     |.ok x q2=>(e q2).map λI=>Ty.mk 8 [] [] [I] x)=D:=he
  refine cT a (cq p) (by show p<4294967296;omega) ?_;refine cH a g (cq (p+1)) [40] Q7 ?_;cases j:cG (a.tok (p+1)) [40]with
  |false=>
   rw[cw,j,W' dc]at he;dsimp only at he;rw[gd j];refine QJ a g e (p+1) h _ (aiy _) Q7 [44] [41] A' ?_;refine h.err _ (aiy _) Q7 _ _ (λk E B R c=>?_);intro t;exact Ks
  |true=>
   have f:=g.step Q7 j;rw[cw,j,X' rfl,cw]at he;dsimp only at he;rw[fD j];refine BY a g e (p+1+1) f (h.up om) [44] [41] dc A' (λx z q e3 hd=>?_) (λm w q z e3 EJ hq=>?_)
   ·have⟨O,K⟩:=rP g (λM I q r=>h.lt M I q om) f e3;rw[e3]at he;dsimp only at he;refine h.call q om K _ _ (λI d2 q2 P y=>?_) (λm w q2 k E B R c P EJ G=>?_)
    ·obtain⟨k,E,B,R,c,rfl⟩:=y.dL;rw[P]at he;intro t;refine cy ?_;refine a8 0 ⟨Z,Z,by rw[<-he];exact⟨_,.mk (.ps (.cons y .nil) (List.cons_ne_nil _ _)) hd,rfl⟩⟩
    rw[P]at he;intro t;refine cy ?_;refine a8 0 ⟨Z,Z,by rw[<-he];exact⟨EJ,_,_,_,_,_,q2,G,rfl⟩⟩
   rw[e3]at he;dsimp only at he;refine h.err _ EJ hq _ _ (λk E B R c=>?_);intro t;exact xM
 refine gh a (cq p) 1 d ?_;rw[gf];apply aZ<;>intro v
 ·have i:(a.tok p).kind=1:=f_ v;have Q7:=g.go p _ (cn d) om;rw[i]at he;have he:(match cw a [[58,58]] (p+1)with
    |.bad V w=>.bad V w
    |.ok _ q1=>if(a.tok q1).kind≠2 then .bad (a.tok q1).off 3 else(fS e a (q1+1)).map λx=>Ty.mk 10 (a.tok p).text (a.tok q1).text x [])=D:=he
  refine dv a g (cq p) 1 d ?_;rw[lm i,RS.dq,gf,v,X' rfl];refine cH a g (cq (p+1)) [58,58] Q7 ?_;cases n:cG (a.tok (p+1)) [58,58]with
  |false=>
   rw[cw,n,W' dc]at he;dsimp only at he;rw[gd n];refine dv a g _ 2 Q7 ?_;rw[nE (aiy _),RS.dq,iF (aiy _),W' dc];refine uv a _ (aiy _) Q7 ?_;exact Ks
  |true=>
   have f:=g.step Q7 n;rw[cw,n,X' rfl,cw]at he;dsimp only at he;rw[fD n];refine dv a g (cq (p+1+1)) 2 f ?_;by_cases b:(a.tok (p+1+1)).kind=2
   ·have A:=g.go _ _ (cn f) om;rw[W' (λQ=>Q b)]at he;rw[lm b,RS.dq,gf,a_ b,X' rfl];refine Hh a g e (p+1+1+1) A (h.up om) (λx z q e3 hd=>?_) (λm w q z e3 EJ hq=>?_)
    ·exact Kz
    rw[e3]at he;exact xM
   rw[X' b]at he;rw[nb b,RS.dq,gf,Z' b,W' dc];refine uv a _ (aiy _) f ?_;refine cy ?_;refine a8 0 ⟨Z,Z,by rw[<-he];exact⟨dc,_,_,_,_,_,p+1+1,f,rfl⟩⟩
 have i:(a.tok p).kind≠1:=e_ v;refine dv a g (cq p) 2 d ?_;by_cases b:(a.tok p).kind=2
 ·have Q7:=g.go _ _ (cn d) om;rw[b]at he;have he:(fS e a (p+1)).map (λx=>Ty.mk 10 [] (a.tok p).text x [])=D:=he;rw[lm b,RS.dq,gf,a_ b,X' rfl];refine Hh a g e (p+1) Q7 (h.up om) (λx z q e3 hd=>?_) (λm w q z e3 EJ hq=>?_)
  ·exact Kz
  rw[e3]at he;exact xM
 rw[abg (l p d) i b (by assumption) (by assumption) (by assumption) (by assumption) (by assumption) (by assumption) (by assumption) (by assumption) (by assumption)]at he;rw[nb b,RS.dq,gf,Z' b,W' dc];refine uv a _ (aiy _) d ?_;refine cy ?_;refine a8 0 ⟨Z,Z,by rw[<-he];exact⟨dc,_,_,_,_,_,p,d,rfl⟩⟩
def RS.ge(a:Nat)(b:RS):Prop:=b.e=0->a<=b.p/\b.off=0
def RS.ge.xC(a:c<=J):(cq J).ge c:=λ_=>⟨a,rfl⟩
variable{G:RS}
def RS.ge.err(b:G.e≠0):G.ge c:=λa=>Y' a b
def eH(e:G.ge c)(a:G.e=0):G=cq G.p:=by
 have⟨f,d,g⟩:=G;have⟨_,b⟩:=e a;simp only at b a;subst b a;rfl
def RS.ge.mono(d:G.ge c)(b:J<=c):G.ge J:=λa=>⟨aiU b (d a).1,(d a).2⟩
theorem RS.ge.fail{b:Nat}{e:RS}(a f:Nat)(d:f≠0)(g:e.ge b):(e.fail a f).ge b:=by
 unfold RS.fail;split
 ·exact .err d
 exact g
theorem RS.ge.oM{d:Rd}{a:Nat}{b:RS}(e:b.ge a):(b.oM d).ge a:=RS.ge.fail _ 3 dc e
def RS.ge.next{a:Nat}{d:RS}(e:d.ge a):d.next.ge a:=λb=>⟨Nat.le_succ_of_le (e b).1,(e b).2⟩
def RS.ge.expect{f:Rd}{a:Nat}{b:RS}{e:cC}(d:b.ge a):(b.expect f e).ge a:=by
 unfold RS.expect;split
 ·exact d.next
 exact d.oM
def RS.ge.word{f:Rd}{a e:Nat}{b:RS}(d:b.ge a):(b.word f e).ge a:=by
 unfold RS.word;split
 ·exact d.next
 exact d.oM
theorem nF(b:RS)(a d:Nat):(b.fail a d).p=b.p:=by unfold RS.fail;split<;>rfl
def c9(a:G.is E K=A'):G.e=0/\cG (E.tok G.p) K=A':=by
 simp only[RS.is,aiJ,j_]at a;exact a
def ke(a:G.isKind E c=A'):G.e=0/\(E.tok G.p).kind=c:=by
 simp only[RS.isKind,aiJ,j_]at a;exact a
def cJ(b:G.is E K=B')(a:G.e=0):cG (E.tok G.p) K=B':=by
 rw[RS.is,a_ a,Bool.true_and]at b;exact b
def gL(b:G.isKind E c=B')(a:G.e=0):(E.tok G.p).kind≠c:=by
 rw[RS.isKind,a_ a,Bool.true_and]at b;exact e_ b
def eF{b:Type}(g:PR b)(d:RS)(i:b->Prop):Prop:=match g with
 |.ok h f=>d=cq f/\i h
 |.bad a e=>e≠0/\d.off=a/\d.e=e
def eF.ok{a:Type}{d:a}{b:Nat}{e:a->Prop}(f:e d):eF (.ok d b) (cq b) e:=⟨rfl,f⟩
def eF.bad{b:Type}{f a d:Nat}{g:b->Prop}(e:d≠0):eF (.bad a d:PR b) ⟨f,a,d⟩ g:=⟨e,rfl,rfl⟩
theorem eF.map{a b:Type}{e:PR a}{h:RS}{k:a->Prop}{i:b->Prop}{j:a->b}(f:eF e h k)(g:∀d,k d->i (j d)):eF (e.map j) h i:=by
 cases e with
 |ok d l=>exact⟨f.1,g d f.2⟩
 |bad n m=>exact f
def eF.imp{a:Type}{d:PR a}{h g:a->Prop}(e:eF d G h)(f:∀b,h b->g b):eF d G g:=by
 cases d with
 |ok b i=>exact⟨e.1,f b e.2⟩
 |bad k j=>exact e
def RS.stay(a b:RS):Prop:=a.e≠0->b=a
def RS.stay.expect{d:Rd}{a:RS}{b:cC}:a.stay (a.expect d b):=λe=>gB e b
def RS.stay.word{d:Rd}{a:RS}{b:Nat}:a.stay (a.word d b):=λe=>nE e b
def RS.stay.trans{d e:RS}(f:G.stay d)(b:d.stay e):G.stay e:=λa=>by
 have:=f a;subst this;exact b a
def PR.bind{b a:Type}(f:PR b)(e:b->Nat->PR a):PR a:=match f with
 |.bad h i=>.bad h i
 |.ok g d=>e g d
theorem eF.bind{a d:Type}{k:PR a}{p:a->Nat->PR d}{h j:RS}{P:a->Prop}{o:d->Prop}(n:eF k h P)(m:h.stay j)(i:∀f g,h=cq g->P f->eF (p f g) j o):eF (k.bind p) j o:=by
 cases k with
 |ok f g=>exact i f g n.1 n.2
 |bad q s=>
  have⟨e,l,b⟩:=n;have:=m (by rw[b];exact e);subst this;exact⟨e,l,b⟩
def eF.name(b:Rd)(a:Nat):eF (dp b a) ((cq a).word b 1) (λd=>(cq a).dq b 1=d):=by
 rw[dp];by_cases h:(b.tok a).kind=1
 ·exact KA
 rw[X' h,nb h];exact .bad dc
def kL(b:Rd)(a:Nat)(s:cC):eF (cw b [s] a) ((cq a).expect b s) (λ_=>True):=by
 rw[cw];cases d:cG (b.tok a) s with
 |true=>rw[X' rfl,fD d,cw];exact .ok trivial
 |false=>rw[W' dc,gd d];exact .bad dc
def XI(m:FuncId)(fn:Nat->PR Ty)(f:Rd)(d:Nat):Prop:=∀a:RS,a.p<j' f.ts->a.ge d->∀(e:VS) (i:dt->VS->Prop),
  (∀(j k h l g:D) (b:RS),b.p<j' f.ts->b.ge d->a.stay b->(a.e=0->eF (fn a.p) b (λn=>fF n [j,k,h,l,g]))->i (.ret (.dP [.agg [.d j,.d k,.d h,.d l,.d g],b.v f])) e)->b7 C cm m [a.v f] e i
def yZ.g(s:yZ r E c):XI dh r E c:=by
 intro n d i m t h;by_cases a:n.e=0
 ·have k:=eH i a;have g:=(i a).1;rw[k];refine s.call n.p g d m t (λP I q e j=>?_) (λl D q x z y v w e f p=>?_)
  ·obtain⟨x,z,y,v,w,rfl⟩:=j.dL;have⟨C,o⟩:=s.lt _ _ _ g d e;exact h _ _ _ _ _ (cq q) o (.xC om) (λb=>Y' a b) λ_=>by rw[e];exact .ok j
  exact h _ _ _ _ _ ⟨q,l,D⟩ p (.err f) (λb=>Y' a b) λ_=>by rw[e];exact .bad f
 refine s.err n a d m t (λx z y v w=>?_);exact h _ _ _ _ _ n d i (λ_=>Z) λb=>Y' b a
structure mz (g:FuncId) (A:V->List V) (fn:Nat->PR Ex) (R:Rd) (lo:Nat):Prop where
 call:∀x:RS,x.p<j' R.ts->x.ge lo->∀(σ:VS) (K:dt->VS->Prop),
  (∀(c0 c1 c2 c3 c4 c5 c6 c7:D) (y:RS),y.p<j' R.ts->y.ge lo->x.stay y->(x.e=0->eF (fn x.p) y (λt=>iz t [c0,c1,c2,c3,c4,c5,c6,c7]))->K (.ret (.dP [.agg [.d c0,.d c1,.d c2,.d c3,.d c4,.d c5,.d c6,.d c7],y.v R])) σ)->b7 C cm g (A (x.v R)) σ K
def one(a:V):n_ V:=[a]
def RxP(fn:Nat->PR Ex)(m:Rd)(l:Nat)(k:RS)(n:dt):Prop:=∃(i j a d h f g e:D) (b:RS),b.p<j' m.ts/\b.ge l/\k.stay b/\(k.e=0->eF (fn k.p) b (λo=>iz o [i,j,a,d,h,f,g,e]))/\n=.ret (.dP [.agg [.d i,.d j,.d a,.d d,.d h,.d f,.d g,.d e],b.v m])
variable{N:FuncId} {S:V->n_ V}
def mz.of{fn:Nat->PR Ex}(i:∀a:RS,hP 0 (S (a.v E))=A')(w:∀a:RS,a.p<j' E.ts->a.ge c->b7 C cm N (S (a.v E)) [] λd b=>b=[]/\da d=A'/\RxP fn E c a d):mz N S fn E c:=by
 refine⟨λa j m v D f=>?_⟩;refine b7.closed (w a j m) (i a) (λd k=>?_);obtain⟨z,o,p,s,y,t,x,n,q,h,e,l,g,rfl⟩:=k;exact f _ _ _ _ _ _ _ _ q h e l g
def mz.up{fn:Nat->PR Ex}(I:mz N S fn E c)(f:∀l g m,c<=l->l<j' E.ts->fn l=.ok g m->l<m/\m<j' E.ts)(j:c<=J):mz N S fn E J:=by
 refine⟨λg i e p q n=>I.call g i (e.mono j) p q (λr w x C R D P v y o s k h=>n _ _ _ _ _ _ _ _ y o ?_ k h)⟩;by_cases b:g.e=0
 ·have a:=h b;cases d:fn g.p with
  |ok B m=>
   rw[d]at a;obtain⟨rfl,_⟩:=a;have⟨z,t⟩:=f _ _ _ (aiU j (e b).1) i d;have:=(e b).1;exact .xC om
  |bad u A=>
   rw[d]at a;exact .err (by rw[a.2.2];exact a.1)
 rw[k b];exact .err b
theorem Tv(a:Nat->PR Ty)(b:Rd)(d:Nat):dE a b d=(cw b [[91]] d).bind λ_ e=>(a e).bind λf q1=>(cw b [[93]] q1).bind λ_ q2=>.ok f q2:=by
 grind [dE,PR.bind]
def ag4(v:E.Wf)(x:XI dh r E c):XI jK (dE r E) E c:=by
 intro h l q A F y;refine b7.closed (P:=λV=>∃(k o m f i:D) (d:RS),d.p<j' E.ts/\d.ge c/\h.stay d/\(h.e=0->eF (dE r E h.p) d (λu=>fF u [k,o,m,f,i]))/\V=.ret (.dP [.agg [.d k,.d o,.d m,.d f,.d i],d.v E])) ?_ Z (λV I=>by
  obtain⟨k,o,m,f,i,d,e,w,P,C,rfl⟩:=I;exact y _ _ _ _ _ d e w P C)
 refine cD ?_;refine cH E v h [91] l ?_;have e:=cW v (s:=[91]) l;refine x _ e q.expect _ _ (λk o m f i d n j b a=>?_);refine cy ?_;refine cH E v d [93] n ?_;refine cy ?_;refine a8 0 ⟨Z,Z,k,o,m,f,i,_,cW v n,j.expect,(RS.stay.expect.trans b).trans .expect,λR=>?_,Z⟩;rw[Tv];have g:=eH q R;rw[g]at b a;refine eF.bind (kL E h.p [91]) (b.trans .expect) (λB G z _=>?_);rw[z]at a;refine eF.bind (a Z) .expect (λu q2 s p=>?_);rw[s];refine eF.bind (kL E q2 [93]) (λ_=>Z) (λB q3 t _=>?_);rw[t];exact .ok p
def AG(h:Nat->PR Ty)(d:Rd)(e:Nat):Prop:=∀a:RS,a.p<j' d.ts->a.ge e->∀(f:VS) (i:dt->VS->Prop),
  (∀(g:D) (b:RS),b.p<j' d.ts->b.ge e->a.stay b->(∃k,ft k g)->(a.e=0->eF (fS h d a.p) b (λj=>ft j g))->(a.e≠0->g=.cu)->i (.ret (.dP [.d g,b.v d])) f)->b7 C cm iq [a.v d] f i
def adq(t:E.Wf)(s:yZ r E c):AG r E c:=by
 intro n e i y D h;by_cases b:n.e=0
 ·have j:=eH i b;have m:=(i b).1;rw[j];refine Eb E t r n.p e (s.up m) (λI w l f d=>?_) (λk C l w f g d p=>?_)
  ·have⟨x,o⟩:=Bx t (λq z l v=>s.lt q z l om) e f;exact h _ (cq l) o (.xC om) (λa=>Y' b a) ⟨_,d⟩ (λ_=>by rw[f];exact .ok d) λa=>Y' b a
  exact h _ ⟨l,k,C⟩ p (.err g) (λa=>Y' b a) d (λ_=>by rw[f];exact .bad g) λa=>Y' b a
 exact uv E n b e (h _ n e i (λ_=>Z) ⟨_,.nil⟩ (λa=>Y' a b) (λ_=>Z))
theorem afz{a:n_ cC}(e:c=j' a):cV 0 (.ret (.ms 0 1 0 c c)) [.row 1 (rZ a)] λf d=>d=[]/\da f=A'/\∃b,f=.ret (.d (.ps b 0 1 c (eY a))):=by
 refine cV.freeze 0 (es:=1) (l:=eY a) Z (dF _) (λ_=>⟨Z,by simp[eY,e]⟩) (λb=>?_);have g:qL 0 b (eY a) (.ret (.ms 0 1 0 c c))=.ret (.d (.ps b (0*1) 1 c (eY a))):=by
  show dt.ret (jN 0 b _ (.ms 0 1 0 c c))=_
  grind [jN,gr,eG,eY]
 rw[g];exact cV.drop 0 Z (uu 0 _) Z (cV.now Z ⟨Z,Z,b,Z⟩)
def QL(a:n_ ij)(e:n_ cP)(j:od a e)(w:j' a<4294967296)(h g:Nat)(o:∀h,u (.ret (.d (.ps h 0 1 (j' a) (eY (a.map ij.n))))) H):
  b7 C cm gO [.d (.ps h 0 8 g e)] H u:=by
 refine b7.closed (P:=λq=>∃h,q=.ret (.d (.ps h 0 1 (j' a) (eY (a.map ij.n))))) ?_ Z (λq D=>by obtain⟨h,rfl⟩:=D;exact o h);refine cB abc (λ_=>Z) ?_;have f:=j.len;refine ck.iter (λb:Nat=>[(0,.d (.ps h 0 8 g e)),(3,.ms 0 1 0 b b),(4,cl b)]) (λb=>[.row 1 (rZ ((a.take b).map ij.n))]) (λb=>j' a-b) (λb=>b<=j' a) ?_ 0 (aiH _);intro b y;apply aZ<;>intro l
 ·have d:b<j' a:=f▸eK l;have⟨I,p,k⟩:=j.get d;obtain⟨t,z,tn,v,x,rfl⟩:=k.dL;have n:=aiM d;have m:(a.take (b+1)).map ij.n=(a.take b).map ij.n++[a[b].n]:=by rw[aiP,n,aiN];try rfl
  have i:b=j' ((a.take b).map ij.n):=by simp;omega
  refine bZ Z ?_;refine cp _ (by rw[cx];exact p) ?_;intro s;refine a6 Z (a6 ⟨Z,Z,by simp[rZ,eY];omega,aiv _,abb (aiv b) om⟩ ?_);refine a7 Z (a7 (ej b) ?_);refine⟨b+1,d,ik,?_,Z,Z⟩;refine .pick 0 [1] ⟨Z,Z,int_eq (cF om),tv⟩ Z Z Z Z Z dc ⟨?_,aec _ _,tv⟩;rw[m];exact UT _ _ _ i
 have d:j' a<=b:=f▸dK l;obtain rfl:b=j' a:=om;rw[aiI (aiv _)];exact afz sm
def Tw(b:Nat)(a:Bool):V:=if 9223372036854775808<b then .dP [cl 0,cj B']else if a then .dP [.d (.int .i64 (-ais b)),cj A']else .dP [.d (.int .i64 (IntKind.i64.wrap (ais b))),cj (!decide (b=9223372036854775808))]
theorem adr(d:cC):∀a,a<=mj a d:=by
 induction d with
 |nil=>intro a;exact aiv _
 |cons e f b=>intro a;exact aiU om (b (a*10+EE e))
theorem QM(b d:cC)(a:Nat):mj a (b++d)=mj (mj a b) d:=by rw[mj,List.foldl_append];try rfl
def XJ(a:c<j' K):mj 0 (K.take (c+1))=mj 0 (K.take c)*10+EE K[c]:=by
 rw[aiP,aiM a,QM];try rfl
theorem NL(a:cC)(b:Nat):mj 0 (a.take b)<=mj 0 a:=by
 grind [List.take_append_drop,QM,adr]
theorem abh{d:Nat}(a:d<=9):Int.tdiv (-9223372036854775808+ais d) 10= -ais ((9223372036854775808-d)/10):=by
 grind
theorem afA{a:Int}(d:0<=a)(b:a<256):IntKind.u8.wrap a=a:=by
 exact Ci
theorem ads(a:c<=9223372036854775808):IntKind.i64.wrap (IntKind.u64.wrap (0-ais c))= -ais c:=by
 unfold IntKind.wrap;simp only[IntKind.signed,IntKind.bits,ait];all_goals grind [aiO]
theorem Tx(a:cC)(d:Bool)(v:a.all isDigit=A')(P:j' a<=19):b7 C cm oI [cv a,cj d] [] λI m=>m=[]/\I=.ret (Tw (mj 0 a) d):=by
 refine cD ?_;refine ck.less (fx:=[(0,cv a),(1,cj d),(6,.d (.int .i64 (-ais (mj 0 (a.take 0))))),(7,cl 0)]) ⟨Z,Z,Z,Z,tv⟩ ?_;refine ck.iter (λe:Nat=>[(0,cv a),(1,cj d),(6,.d (.int .i64 (-ais (mj 0 (a.take e))))),(7,cl e)]) (λ_=>[]) (λe=>j' a-e) (λe=>e<=j' a/\mj 0 (a.take e)<=9223372036854775808) ?_ 0 ⟨aiH _,by rw[List.take_zero];exact aiH _⟩;rintro e ⟨R,q⟩;apply aZ<;>intro t
 ·have b:e<j' a:=eK t;have l:=aiM b;have n:isDigit a[e]=A':=List.all_eq_true.1 v _ (List.getElem_mem b);have⟨y,w⟩:=D5 n;have g:=XJ b;have z:=NL a (e+1);generalize a[e]=f at l y w g;have D:EE f=f.toNat-48:=rfl;refine bZ Z (cp f (by rw[cx];exact l) ?_);refine a6 dc ?_;have j:IntKind.u8.wrap (ais f.toNat-48)=ais (EE f):=by
   grind [afA,ait]
  have i:IntKind.i64.wrap (ais (EE f))=ais (EE f):=wrap64 (by simp only[ait];omega) (by simp only[ait];omega);have o:IntKind.i64.wrap (-9223372036854775808+ais (EE f))= -9223372036854775808+ais (EE f):=wrap64 (by simp only[ait];omega) (by simp only[ait];omega);have p:=abh (d:=EE f) om;have k:IntKind.i64.wrap (-ais ((9223372036854775808-EE f)/10))= -ais ((9223372036854775808-EE f)/10):=wrap64 (by simp only[ait];omega) (by simp only[ait];omega);apply aZ<;>intro h
  ·rw[j,i,o,p,k]at h;have h:=f_ h;simp only[ait]at h;exact a8 0 ⟨Z,by rw[Tw,X' om];try rfl⟩
  rw[j,i,o,p,k]at h;have h:=e_ h;simp only[ait]at h;refine⟨e+1,⟨b,om⟩,ik,.same ⟨Z,Z,int_eq ?_,int_eq (cF om),tv⟩ Z,Z,Z⟩;have x:IntKind.i64.wrap (10* -ais (mj 0 (a.take e)))=10* -ais (mj 0 (a.take e)):=wrap64 (by simp only[ait];omega) (by simp only[ait];omega);show IntKind.i64.wrap (IntKind.i64.wrap (10* -ais (mj 0 (a.take e)))-IntKind.i64.wrap (IntKind.u8.wrap (ais f.toNat-48)))=_;rw[j,i,x,wrap64 (by simp only[ait];omega) (by simp only[ait];omega),g];exact nj
 have b:j' a<=e:=dK t;rw[aiI b]at q⊢;have s:¬9223372036854775808<mj 0 a:=om;rw[Tw,W' s];cases d with
 |true=>exact a8 0 ⟨rfl,rfl⟩
 |false=>
  refine a8 0 ⟨Z,?_⟩;rw[W' dc];show dt.ret (.dP [.d (.int .i64 (IntKind.i64.wrap (0- -ais (mj 0 a)))),cj (!decide (-ais (mj 0 a)= -9223372036854775808))])=.ret (.dP [.d (.int .i64 (IntKind.i64.wrap (ais (mj 0 a)))),cj (!decide (mj 0 a=9223372036854775808))]);rw[Int.sub_neg,Int.zero_add,show decide (-ais (mj 0 a)= -9223372036854775808)=decide (mj 0 a=9223372036854775808)from decide_eq_decide.2 (by simp only[ait];omega)]
def LD(b:cC)(a:Bool)(d:b.all isDigit=A')(f:j' b<=19)(e:u (.ret (Tw (mj 0 b) a)) H):b7 C cm oI [cv b,cj a] H u:=by
 refine cI (Tx b a d f) Z ?_ e;unfold Tw;split
 ·rfl
 split<;>rfl
def th(a:Bool):Nat:=if a then 9223372036854775808 else 9223372036854775807
def abi(R:E.Wf)(q:∀c,Ql (E.tok c))(b:Bool)(C:Nat):mz u0 (λV=>[V,cj b]) (qS (th b) E) E C:=by
 refine mz.of (λa=>Z) (λa s m=>?_);refine cD ?_;refine dv E R a 3 s ?_;have e:=fB R (k:=3) dc s;by_cases g:a.isKind E 3=A'
 ·have⟨h,l⟩:=ke g;have⟨d1,d2,d3⟩:=q a.p l;have⟨x,w⟩:=G8 d1 d2 d3;have i:=eH m h;have o:a.word E 3=cq (a.p+1):=by rw[i];exact lm l
  have j:a.dq E 3=(E.tok a.p).text:=by rw[RS.dq,X' g]
  have d:∀I,a.stay I:=λI z=>Y' h z;rw[o]at e;have D:=(m h).1;rw[o,j];refine LD _ b d1 d2 ?_;rw[Tw];have f:qS (th b) E a.p=if th b<mj 0 (E.tok a.p).text then .bad (E.tok a.p).off 2 else .ok (.mk 0 [] [] [] (if th b=9223372036854775808 then IntKind.i64.wrap (IntKind.u64.wrap (0-ais (mj 0 (E.tok a.p).text)))else IntKind.i64.wrap (ais (mj 0 (E.tok a.p).text))) [] [] []) (a.p+1):=by
   rw[qS,W' (λz=>z l),x]
  generalize mj 0 (E.tok a.p).text=P at f w;by_cases p:9223372036854775808<P
  ·rw[X' p];refine kD E (cq (a.p+1)) (E.tok a.p).off 2 ?_;refine cy ?_;refine a8 0 ⟨Z,Z,_,_,_,_,_,_,_,_,⟨a.p+1,(E.tok a.p).off,2⟩,e,.err (aiy _),d _,λ_=>?_,Z⟩;rw[f,X' (by unfold th;split<;>omega)];exact .bad dc
  rw[W' p];cases b with
  |true=>
   refine cy ?_;refine a8 0 ⟨Z,Z,_,_,_,_,_,_,_,_,cq (a.p+1),e,.xC om,d _,λ_=>?_,Z⟩;rw[f,W' (by unfold th;rw[X' rfl];omega),show th A'=9223372036854775808 from rfl,X' rfl];refine .ok ?_;rw[ads om];exact .mk .nil .nil .nil
  |false=>
   by_cases n:P=9223372036854775808
   ·rw[W' dc,a_ n];refine kD E (cq (a.p+1)) (E.tok a.p).off 2 ?_;refine cy ?_;refine a8 0 ⟨Z,Z,_,_,_,_,_,_,_,_,⟨a.p+1,(E.tok a.p).off,2⟩,e,.err (aiy _),d _,λ_=>?_,Z⟩;rw[f,X' (by unfold th;rw[W' dc];omega)];exact .bad dc
   rw[W' dc,Z' n];refine cy ?_;refine a8 0 ⟨Z,Z,_,_,_,_,_,_,_,_,cq (a.p+1),e,.xC om,d _,λ_=>?_,Z⟩;rw[f,W' (by unfold th;rw[W' dc];omega),show th B'=9223372036854775807 from rfl,W' dc];exact .ok (.mk .nil .nil .nil)
 have g:a.isKind E 3=B':=by simpa using g
 have j:a.dq E 3=[]:=by rw[RS.dq,g,W' dc]
 have o:a.word E 3=a.oM E:=by rw[RS.word,g,W' dc]
 rw[j];refine LD [] b Z dc ?_;have v:∀y:Bool,Tw (mj 0 []) y=.dP [.d (.int .i64 0),cj A']:=λy=>by cases y<;>rfl
 rw[v];refine cy ?_;refine a8 0 ⟨Z,Z,_,_,_,_,_,_,_,_,a.word E 3,e,m.word,.word,λh=>?_,Z⟩;have i:=eH m h;have t:=gL g h;rw[qS,X' t,i,nb t];exact .bad dc
def Fl{b d:Prop}(a:d)(e:b:=by repeat' (first|exact tv|exact rfl|exact Nat.zero_le _|exact Nat.le_refl _|exact EI|exact hkt|exact hx0|exact hk0|exact Nat.le_of_ble_eq_true rfl|refine af6 ?_ (Nat.le_of_ble_eq_true rfl)|refine af7 ?_|exact Ag|refine bZ rfl ?_|refine a6 ?_ ?_|refine And.intro ?_ ?_)):l3 b d:=⟨e,a⟩
def IB:b7 C cm gO [.ms 0 8 0 0 0] [.row 8 []] λd a=>a=[.row 8 []]/\∃b,d=.ret (.d (.ps b 0 1 0 (eY []))):=by
 refine cB abc (λ_=>Z) ?_;refine ck.loop ?_;refine cV.freeze 1 (es:=1) (l:=[]) Z Z (λ_=>⟨Z,aiv _⟩) (λb=>?_);exact cV.drop 1 Z Z Z (cV.now Z ⟨Z,b,Z⟩)
def qX(i:Nat)(b:nth H i=q' (.row 8 []))(g:∀e,u (.ret (.d (.ps e 0 1 0 (eY [])))) H):b7 C cm gO [.ms i 8 0 0 0] H u:=by
 refine vb (fk:=[.ms 0 8 0 0 0]) (P:=λh a=>a=[]/\∃e,h=.ret (.d (.ps e 0 1 0 (eY [])))) (IB.mono λh j d=>?_) i b (λk d=>by cases d) Z Z (λh a d=>?_)
 ·obtain⟨rfl,e,rfl⟩:=d;exact⟨[],Z,Z,(λk d=>by cases d),Z,e,Z⟩
 obtain⟨rfl,e,rfl⟩:=d;rw[rM b];exact g e
def vq(a:n_ ij)(d:n_ cP)(b:n_ cC)(j:a.map ij.n=b)(i:od a d)(h:j' a<4294967296)(f e:Nat)(g:∀f,u (.ret (.d (.ps f 0 1 (j' a) (eY b)))) H):b7 C cm gO [.d (.ps f 0 8 e d)] H u:=by
 subst j;exact QL a d i h f e g
def pD{R:Rd}{acc:n_ dg}{q:Nat}{b:Bool}(e:b=decide ((cq q).dq R 1∈acc.map dg.n)):eF (eg R acc q) (if b then((cq q).word R 1).fail (R.tok q).off 5 else(cq q).word R 1) (λs=>(cq q).dq R 1=s):=by
 rw[eg];by_cases d:(R.tok q).kind=1
 ·have f:(cq q).dq R 1=(R.tok q).text:=by rw[RS.dq,gf,a_ d,X' rfl];try rfl
  rw[W' (λg=>g d),lm d];rw[f]at e⊢;by_cases a:(R.tok q).text∈acc.map dg.n
  ·rw[e,a_ a,X' rfl,X' a,RS.fail,X' (show(cq (q+1)).e=0 from rfl)];exact .bad dc
  rw[e,Z' a,W' a,W' (λd=>by cases d)];exact .ok Z
 rw[X' d,nb d];have:(if b=A' then(⟨q,(R.tok q).off,3⟩:RS).fail (R.tok q).off 5 else⟨q,(R.tok q).off,3⟩)=⟨q,(R.tok q).off,3⟩:=by
  split
  ·exact nD (aiy _) _ _
  rfl
 rw[this];exact .bad dc
def afB(a:Nat->PR Ex)(b:Rd)(s:cC)(d:Nat):eV a b s d=(cw b [s] d).bind λ_ e=>a e:=by
 unfold eV PR.bind;cases cw b [s] d<;>rfl
def UU(b:Nat->PR Ex)(d:Rd)(a:n_ dg)(e:Nat):gx b d a e=(eg d a e).bind λs f=>(eV b d [58] f).map λg=>a++[⟨s,[],cY,B',[g]⟩]:=by
 unfold gx PR.bind;cases eg d a e<;>rfl
theorem UW(b:Nat->PR Ex)(d:Rd)(a:n_ dg)(e:Nat):fX b d a e=(eg d a e).bind λh f=>(dp d f).bind λi q1=>(eV b d [61,62] q1).map λg=>a++[⟨h,i,cY,B',[g]⟩]:=by
 unfold fX PR.bind
 grind
variable{A:Nat->PR Ex}
theorem eF.val{e:RS}{h:Ex->Prop}(f:G=cq J)(g:G.ge c)(a:(G.expect E K).stay e)(b:(G.expect E K).e=0->eF (A (G.expect E K).p) e h):eF (eV A E K J) e h:=by
 subst f;rw[afB];refine eF.bind (kL E J K) a (λj i d _=>?_);rw[d]at b;exact b Z
theorem RS.stay.fail{b:RS}{a e:Nat}:b.stay (b.fail a e):=λd=>nD d _ _
def EG(a b:cC):cP:=[.str a,.str b,.int .i64 (ais 0),.str [],.str [],.cu,.cu,.bool B']
def afC(a f:cC)(d:Ty)(g:Bool)(e:d=cY)(b:g=B'):∃h,EG a f=Ip ⟨a,f,d,g⟩ h/\fF (ij.ty ⟨a,f,d,g⟩) h:=by
 subst e b;exact⟨_,Z,.mk .nil .nil⟩
variable{F:n_ cP} {Y:cP}
def od.ins{a:n_ ij}{b:ij}(h:od a F)(hd:fF b.ty Y)(t:Nat):od (a.take t++b::a.drop t) (F.take t++Ip b Y::F.drop t):=by
 induction a generalizing F t with
 |nil=>cases h;cases t<;>exact .cons hd .nil
 |cons e d ih=>
  exact Kr
def ir.ins{a:n_ Ex}{b:Ex}(h:ir a F)(hd:iz b Y)(t:Nat):ir (a.take t++b::a.drop t) (F.take t++Y::F.drop t):=by
 induction a generalizing F t with
 |nil=>cases h;cases t<;>exact .cons hd .nil
 |cons e d ih=>
  exact Kr
def Rh(b:n_ dg):Prop:=∀a∈b,j' a.val=1
variable{B X:n_ dg}
def LF(i:Rh B)(a:Nat):(B.take a).flatMap dg.val=(B.flatMap dg.val).take a/\(B.drop a).flatMap dg.val=(B.flatMap dg.val).drop a:=by
 induction B generalizing a with
 |nil=>simp
 |cons j B e=>
  have f:=i j sm;have⟨l,h⟩:=List.length_eq_one_iff.1 f;cases a with
  |zero=>simp
  |succ a=>
   obtain⟨b,g⟩:=e (λk d=>i k (by simp[d])) a;simp[aiL,h,b,g]
def abj(d:Rh B):j' (B.flatMap dg.val)=j' B:=by
 induction B with
 |nil=>rfl
 |cons e B b=>rw[aiL,aiz,d e sm,b λf a=>d f (by simp[a]),aiD];omega
structure Rb (acc:List dg) (xs ks:List cP):Prop where
 rO:od ((cz dg.n acc).map dg.rO) xs
 kid:ir ((cz dg.n acc).flatMap dg.val) ks
 one:Rh acc
 nd:(acc.map dg.n).Nodup
def Rb.len{a:n_ dg}{e f:n_ cP}(h:Rb a e f):j' e=j' a/\j' f=j' a:=by
 have d:=h.rO.len;have b:=h.kid.len;rw[aiu,fg]at d;rw[abj (λi g=>h.one i ((dU a).mem_iff.1 g)),fg]at b;exact⟨d,b⟩
theorem Rb.ins{acc:n_ dg}{xs ks:n_ cP}{a v:cC}{b:Ex}{k:cP}(h:Rb acc xs ks)(l:a ∉ acc.map dg.n)(f:iz b k):
  Rb (acc++[⟨a,v,cY,B',[b]⟩]) (xs.take (p9 ((cz dg.n acc).map dg.n) a)++EG a v::xs.drop (p9 ((cz dg.n acc).map dg.n) a)) (ks.take (p9 ((cz dg.n acc).map dg.n) a)++k::ks.drop (p9 ((cz dg.n acc).map dg.n) a)):=by
 have d:cz dg.n (acc++[⟨a,v,cY,B',[b]⟩])=(cz dg.n acc).take (p9 ((cz dg.n acc).map dg.n) a)++⟨a,v,cY,B',[b]⟩::(cz dg.n acc).drop (p9 ((cz dg.n acc).map dg.n) a):=by
  rw[xg,NI]
 have e:Rh (cz dg.n acc):=λi hp=>h.one i ((dU acc).mem_iff.1 hp);refine⟨?_,?_,λi hp=>?_,?_⟩
 ·rw[d,aiN,aiT,aiR,aiS];have⟨d0,g,j⟩:=afC a v cY B' rfl rfl;rw[g];exact h.rO.ins j _
 ·rw[d,List.flatMap_append,aiL,(LF e _).1,(LF e _).2];exact h.kid.ins f _
 ·rcases List.mem_append.1 hp with hp|hp
  ·exact h.one i hp
  grind [aiZ.1]
 exact xJ
theorem Rb.mem{b:n_ cP}(d:Rb B F b)(a:cC):decide (((cz dg.n B).map dg.n)[p9 ((cz dg.n B).map dg.n) a]?=q' a)=decide (a∈B.map dg.n):=by
 rw[NJ (ii d.nd)]
 grind [dU]
def QN(i:E.Wf)(h:jP E c A){p f:Nat}(k:c<=p)(d:p<j' E.ts)(b:gx A E B p=.ok X f):p<f/\f<j' E.ts:=by
 rw[gx]at b;cases a:eg E B p with
 |bad l n=>rw[a]at b;cases b
 |ok s q1=>
  rw[a]at b;dsimp only at b;have⟨f1,f2⟩:=q9 i d a;obtain⟨m,e,rfl⟩:=fR b;have⟨j,g⟩:=kJ i h om f2 e;exact⟨om,g⟩
def QO(k:E.Wf)(i:jP E c A){p h:Nat}(m:c<=p)(e:p<j' E.ts)(a:fX A E B p=.ok X h):p<h/\h<j' E.ts:=by
 rw[fX]at a;cases d:eg E B p with
 |bad l q=>rw[d]at a;cases a
 |ok s q1=>
  rw[d]at a;dsimp only at a;have⟨f1,f2⟩:=q9 k e d;cases b:dp E q1 with
  |bad l q=>rw[b]at a;cases a
  |ok t q2=>
   rw[b]at a;dsimp only at a;have⟨o,j⟩:=gy k f2 b;obtain⟨v,g,rfl⟩:=fR a;have⟨n,f⟩:=kJ k i om j g;exact⟨om,f⟩
def B0(b:Rd)(a:RS):n_ V:=[.d (.ps b.b 0 3 b.cap (b.ts.map pn)),cl a.p,cl a.off,cl a.e]
theorem yE(f:n_ (n_ V))(a:n_ cP)(e:cP)(d:Nat):aix (0+j' (aiG (λb=>aiG V.d b) (aiw 0 (aix d a)))+j' (aiG (λb=>aiG V.d b) [e])) (aiw 0 (aix (0+j' (aiG (λb=>aiG V.d b) (aiw 0 (aix d a)))) (aiw 0 (aix 0 (aiw 0 f)++aiG (λb=>aiG V.d b) (aiw 0 (aix d a))))++aiG (λb=>aiG V.d b) [e]))++aiG (λb=>aiG V.d b) (aiw d (aix (j' a) a))=(a.take d++e::a.drop d).map λb=>b.map V.d:=by
 simp
 grind [aiI,List.append_assoc]
def yF(f:n_ (n_ V))(a:n_ cP)(e:cP)(d:Nat)(g:d=0):aix (0+j' (aiG (λb=>aiG V.d b) [e])) (aiw 0 (aix 0 (aiw 0 f)++aiG (λb=>aiG V.d b) [e]))++aiG (λb=>aiG V.d b) (aiw d (aix (j' a) a))=(a.take d++e::a.drop d).map λb=>b.map V.d:=by
 subst g;simp
theorem yG(e:n_ (n_ V))(a:n_ cP)(f:cP)(d:Nat)(g:d=j' a):aix (0+j' (aiG (λb=>aiG V.d b) (aiw 0 (aix d a)))) (aiw 0 (aix 0 (aiw 0 e)++aiG (λb=>aiG V.d b) (aiw 0 (aix d a))))++aiG (λb=>aiG V.d b) [f]=(a.take d++f::a.drop d).map λb=>b.map V.d:=by
 grind [aiI]
def jW{a:Nat}(b:c=a):q' (V.ms J 8 0 c c)=q' (V.ms J 8 0 a a):=by rw[b]
theorem oN{i b a:Nat}{l:n_ cP}(d:a=j' l):q' (jN i b l (.ms i 8 0 a a))=q' (V.d (.ps b 0 8 (j' l) l)):=by
 subst d;rw[jN,gr]
 grind
def af6(b:c<=4294967296)(a:J<=256):c*J<=en:=by
 have:=Nat.mul_le_mul b a;unfold en;omega
def af7(a:c<=4294967296):c<=en:=by
 unfold en;omega
def ag5:Nat->Bool:=λa=>aiF a 58||aiF a 70||aiF a 1000013||aiF a 1000008
def aee:D->Nat
 |.ps _ _ _ _ a=>j' a
 |_=>0
def GvP(fn:Nat->PR (n_ dg))(g:Rd)(h:Nat)(f:RS)(i:dt):Prop:=∃(b a:D) (e:RS),e.p<j' g.ts/\e.ge h/\f.stay e/\(∃d,e9 d b)/\(∃d,gn d a)/\aee a<=j' g.ts/\(f.e=0->eF (fn f.p) e (λd=>e9 ((cz dg.n d).map dg.rO) b/\gn ((cz dg.n d).flatMap dg.val) a))/\i=.ret (.dP [.d b,.d a,e.v g])
def gvT(b:cC)(e f:Nat)(a d:n_ cP):Tm:=[(1,cv b),(2,.bp 0 0),(6,.bp 1 0),(7,.d (.ps e 0 8 (j' a) a)),(8,.d (.ps f 0 8 (j' d) d))]
def aep(b:cC)(e f:Nat)(a d:n_ cP):Tm:=[(1,cv b),(2,.bp 0 0),(6,.bp 1 0),(7,.d (.ps e 0 8 (j' a) a)),(8,.d (.ps f 0 8 (j' d) d)),(11,.bp 2 0)]
def afD(b:cC)(e f:Nat)(a d:n_ cP)(g:cC)(h:Nat):Tm:=[(1,cv b),(2,.bp 0 0),(6,.bp 1 0),(7,.d (.ps e 0 8 (j' a) a)),(8,.d (.ps f 0 8 (j' d) d)),(9,cv g),(11,.bp 2 0),(12,cl h)]
def tu(a:Rd)(d b:RS):VS:=[.box (B0 a d),.box y0,.box (B0 a b)]
def gvS(b:Rd)(a:RS):VS:=[.box (B0 b a),.box y0]
def Ao{fn:Nat->PR (n_ dg)}{b:RS}{acc:n_ dg}{xs ks:n_ cP}{m f j:Nat}(a:Rb acc xs ks)(d:j' ks<=j' E.ts)(h:b.p<j' E.ts)(k:b.ge c)(e:G.stay b)(i:G.e=0->eF (fn G.p) b (λn=>n=acc)):
  GvP fn E c G (.ret (.dP [.d (.ps J 0 8 f xs),.d (.ps m 0 8 j ks),b.v E])):=
 ⟨_,_,b,h,k,e,⟨_,.ps a.rO⟩,⟨_,.ps a.kid⟩,d,λl=>(i l).imp λn g=>by subst g;exact⟨.ps a.rO,.ps a.kid⟩,rfl⟩
variable{T:dt->Prop}
theorem aeo{i j n:Nat}{xs ks:n_ cP}{x:RS}(f:i≠j)(s:nth H i=q' (.row 8 (xs.map λg=>g.map V.d)))(I:nth H j=q' (.row 8 (ks.map λg=>g.map V.d)))(v:n=j' xs)(m:n=j' ks) 
  (y:∀a b,T (.ret (.dP [.d (.ps a 0 8 n xs),.d (.ps b 0 8 n ks),x.v E]))):cV 0 (.ret (.dP [.ms i 8 0 n n,.ms j 8 0 n n,x.v E])) H λC l=>l=[]/\da C=A'/\T C:=by
 have t:∀(i e:Nat) (d:n_ cP),jN i e d (x.v E)=x.v E:=λi e d=>by simp[RS.v,jN,A5,cl]
 have h:∀(i e:Nat) (d:n_ cP),n=j' d->jN i e d (.ms i 8 0 n n)=.d (.ps e 0 8 n d):=λi e d z=>by
  rw[jN,gr];show V.d (.ps e (0*8) 8 n ((d.drop 0).take n))=_;rw[eG _ _ z,Nat.zero_mul]
 have D:∀(i j e:Nat) (d:n_ cP),i≠j->jN i e d (.ms j 8 0 n n)=.ms j 8 0 n n:=λi j e d z=>by
  rw[jN,qM (λo=>z o.symm)]
 refine cV.freeze i (es:=8) (l:=xs) s (dF xs) (by simp[C1,r4,sv,RS.v,cl,v,f]) (λa=>?_);have w:qL i a xs (.ret (.dP [.ms i 8 0 n n,.ms j 8 0 n n,x.v E]))=.ret (.dP [.d (.ps a 0 8 n xs),.ms j 8 0 n n,x.v E]):=by
  show dt.ret (.dP [jN i a xs (.ms i 8 0 n n),jN i a xs (.ms j 8 0 n n),jN i a xs (x.v E)])=_
  grind
 rw[w];have k:nth (H.set i .gone) j=q' (.row 8 (ks.map λg=>g.map V.d)):=by
  grind [cx]
 refine cV.freeze j (es:=8) (l:=ks) k (dF ks) (by simp[C1,r4,sv,RS.v,cl,m]) (λb=>?_);have p:qL j b ks (.ret (.dP [.d (.ps a 0 8 n xs),.ms j 8 0 n n,x.v E]))=.ret (.dP [.d (.ps a 0 8 n xs),.d (.ps b 0 8 n ks),x.v E]):=by
  show dt.ret (.dP [.d (.ps a 0 8 n xs),jN j b ks (.ms j 8 0 n n),jN j b ks (x.v E)])=_;rw[h j b ks m,t]
 rw[p];exact cV.drop 0 (aiV (aiH _)) (uu 0 _) Z (cV.now Z ⟨Z,Z,y a b⟩)
theorem QP{R:Rd}(w:R.Wf)(aB:mz dR one A R c)(al:jP R c A)(fin:cC)(ahr:fin≠[44])(x:RS)(hp:x.p<j' R.ts)(hx:x.ge c):
  b7 C cm w5 [x.v R,cv fin] [] λaU aI=>aI=[]/\da aU=A'/\GvP (ec (gx A R) R fin []) R c x aU:=by
 have aM:=w.len;refine cB ag5 (λ_=>Z) ?_;refine cL R x fin hp ?_;cases hfi:x.is R fin with
 |true=>
  exact I2
 |false=>
  refine ck.loop ?_;refine dv R w x 1 hp ?_;refine qX 2 Z (λap=>?_);refine iG [] _ ap 0 dc ?_;refine gU ?_;have U:=fB w (k:=1) dc hp;have S:=cW w (s:=[58]) U;refine cH R w _ [58] U ?_;refine aB.call _ S (hx.word.expect) _ _ (λE P D r B H u G Y hy y e p=>?_);have O:x.stay Y:=(RS.stay.word.trans .expect).trans e;have b:x.e=0->eF (gx A R [] x.p) Y (λg=>∃a,g=[⟨x.dq R 1,[],cY,B',[a]⟩]/\iz a [E,P,D,r,B,H,u,G]):=λh0=>by
   have hat:=eH hx h0;rw[UU];have J:=pD (R:=R) (acc:=[]) (q:=x.p) (b:=B') sm;rw[W' (λh=>by cases h),<-hat]at J;refine eF.bind J (RS.stay.expect.trans e) (λs q ah aq=>?_);refine eF.map (eF.val ah hx.word e p) λa h=>⟨a,by rw[aq];try rfl,h⟩
  have ad:x.e=0->ec (gx A R) R fin [] x.p=fh (gx A R) R fin (j' R.ts) [] x.p:=λh0=>by rw[ec,W' (by rw[cJ hfi h0];decide)]
  apply aZ<;>intro h1
  ·refine cN ?_;have ab:Y.e≠0:=λI=>by rw[I]at h1;cases h1
   refine cy ?_;refine a8 0 ⟨Z,Z,.cu,.cu,Y,hy,y,O,⟨_,.nil⟩,⟨_,.nil⟩,aiH _,λh0=>?_,Z⟩;rw[ad h0];obtain⟨f,J⟩:∃f,j' R.ts=f+1:=⟨j' R.ts-1,om⟩;rw[J,fh];have t:=b h0;cases d:gx A R [] x.p with
   |bad aL I=>rw[d]at t;exact t
   |ok g q=>rw[d]at t;exact Y' (by rw[t.1];try rfl) ab
  refine cN ?_;have l:Y.e=0:=jq h1;have h0:x.e=0:=by
   by_cases h:x.e=0
   ·exact h
   rw[O h]at l;exact Y' l h
  have hat:=eH hx h0;obtain⟨a,q1,z,rfl,T⟩:∃a q1,gx A R [] x.p=.ok [⟨x.dq R 1,[],cY,B',[a]⟩] q1/\Y=cq q1/\iz a [E,P,D,r,B,H,u,G]:=by
   have t:=b h0;cases d:gx A R [] x.p with
   |bad aL I=>rw[d]at t;exact Y' (t.2.2.symm.trans l) t.1
   |ok g q=>rw[d]at t;obtain⟨ae,a,rfl,ar⟩:=t;exact⟨a,q,rfl,ae,ar⟩
  have y3:Rb [⟨x.dq R 1,[],cY,B',[a]⟩] [EG (x.dq R 1) []] [[E,P,D,r,B,H,u,G]]:=Rb.ins (acc:=[]) (xs:=[]) (ks:=[]) ⟨.nil,.nil,by simp[Rh],by simp⟩ sm T;obtain⟨f0,aE⟩:∃f,j' R.ts=f+1:=⟨j' R.ts-1,om⟩;have o:=ad h0;rw[aE,fh,z]at o;dsimp only at o;repeat first
   |refine bZ rfl ?_
   |intro X
   |refine Fl ?_
   |refine b9 rfl ?_
   |refine a7 rfl ?_
  refine ck.freeze 7 [(1,cv fin),(2,.bp 0 0),(6,.bp 1 0),(7,.ms 7 8 0 1 1),(8,.ms 9 8 0 1 1),(11,.bp 4 0)] (l:=[EG (x.dq R 1) []]) Z Z ⟨Z,Z,Z,Z,Z,Z,tv⟩ ⟨tv,tv,tv,λ_=>⟨Z,aiv _⟩,(λh=>by cases h),tv,tv⟩ (λbL=>?_);refine ck.freeze 9 [(1,cv fin),(2,.bp 0 0),(6,.bp 1 0),(7,.d (.ps bL 0 8 1 [EG (x.dq R 1) []])),(8,.ms 9 8 0 1 1),(11,.bp 4 0)] (l:=[[E,P,D,r,B,H,u,G]]) Z Z ⟨Z,Z,Z,Z,Z,Z,tv⟩ ⟨tv,tv,tv,tv,λ_=>⟨Z,aiv _⟩,tv,tv⟩ (λbK=>?_);refine ck.arr (fx:=aep fin bL bK [EG (x.dq R 1) []] [[E,P,D,r,B,H,u,G]]) (gA:=tu R x (cq q1)) (.eP 2 [0,1,4]) ?_;refine gU ?_;refine cL R (cq q1) [44] hy ?_;rw[ga];cases Ap:cG (R.tok q1) [44]with
  |false=>
   refine cH R w (cq q1) fin hy ?_;refine a8 0 ⟨Z,Z,Ao y3 (by first|omega|(show 1<=j' R.ts;omega)) (cW w hy) y.expect (λh=>Y' h0 h) (λ_=>?_)⟩;rw[o];exact Ju
  |true=>
   refine cT R (cq q1) (by show q1<4294967296;have:q1<j' R.ts:=hy;omega) ?_;have xH:cG (R.tok q1) fin=B':=by
    exact Kl
   have hq2:q1+1<j' R.ts:=w.step hy Ap;rw[W' (by rw[xH];decide),cw,X' Ap,cw]at o;dsimp only at o
   skip
   have ak:=(hx h0).1;have⟨aC,_⟩:=QN w al ak hp z;refine ck.iter (λg:Nat×n_ dg×n_ cP×n_ cP×Nat×Nat=>gvT fin g.2.2.2.2.1 g.2.2.2.2.2 g.2.2.1 g.2.2.2.1) (λg=>gvS R (cq g.1)) (λg=>j' R.ts-g.1)
    (λg=>x.p<g.1/\g.1<j' R.ts/\Rb g.2.1 g.2.2.1 g.2.2.2.1/\0<j' g.2.2.1/\j' g.2.2.1<=g.1/\∃f,j' R.ts-g.1<=f/\ec (gx A R) R fin [] x.p=fh (gx A R) R fin f g.2.1 g.1) ?_ (q1+1,_,_,_,bL,bK) ⟨by show x.p<q1+1;omega,hq2,y3,Nat.zero_lt_one,by show 1<=q1+1;omega,f0,by show (j' R.ts)-(q1+1)<=f0;omega,o⟩ (.eD 2)
   rintro⟨q,acc,xs,ks,bL,bK⟩ ⟨aG,aD,aJ,az,ax,f,au,aF⟩;have aR:x.p<q:=aG;have ah:q<j' R.ts:=aD;have ai:Rb acc xs ks:=aJ;have hx0:0<j' xs:=az;have aS:j' xs<=q:=ax;have J:j' R.ts-q<=f:=au;have vZ:ec (gx A R) R fin [] x.p=fh (gx A R) R fin f acc q:=aF;clear aG aD aJ az ax au aF y3 o T z e p b h1 l hy y O ad;obtain⟨f,rfl⟩:∃k,f=k+1:=⟨f-1,om⟩;rw[fh]at vZ;have⟨aw,av⟩:=ai.len;have aT:j' ((cz dg.n acc).map dg.rO)=j' acc:=by rw[aiu,fg]
   refine dv R w (cq q) 1 ah ?_;refine vq _ xs ((cz dg.n acc).map dg.n) (by rw[aiW];try rfl) ai.rO om bL _ (λap=>?_);refine iG ((cz dg.n acc).map dg.n) _ ap _ (by rw[aiu,fg];omega) ?_;rw[ai.mem];obtain⟨X,ac⟩:∃X,X=decide ((cq q).dq R 1∈acc.map dg.n):=⟨_,rfl⟩;rw[<-ac];have U:=fB w (x:=cq q) (k:=1) dc ah;have W:(if X then((cq q).word R 1).fail (R.tok q).off 5 else(cq q).word R 1).p<j' R.ts:=by
    all_goals grind [nF]
   obtain⟨Q,m⟩:∃Q,Q=(if X then((cq q).word R 1).fail (R.tok q).off 5 else(cq q).word R 1):=⟨_,rfl⟩;rw[<-m]at W;apply de (ι:=Unit) (T:=λ_=>afD fin bL bK xs ks ((cq q).dq R 1) (p9 ((cz dg.n acc).map dg.n) ((cq q).dq R 1))) (S:=λ_=>tu R (cq q) Q) (I:=λ_=>True)
   ·intro hC;apply aZ<;>intro h1
    ·refine cN ?_;refine kD R _ (R.tok q).off 5 ?_;refine ck.arr (fx:=afD fin bL bK xs ks ((cq q).dq R 1) (p9 ((cz dg.n acc).map dg.n) ((cq q).dq R 1))) (gA:=tu R (cq q) Q) (.same ⟨Z,Z,Z,Z,Z,Z,Z,Z,tv⟩ ?_) (hC () trivial);rw[m,X' h1];try rfl
    refine cN ?_;refine ck.arr (fx:=afD fin bL bK xs ks ((cq q).dq R 1) (p9 ((cz dg.n acc).map dg.n) ((cq q).dq R 1))) (gA:=tu R (cq q) Q) (.same ⟨Z,Z,Z,Z,Z,Z,Z,Z,tv⟩ ?_) (hC () trivial);rw[m,h1];try rfl
   intro _ _;have S:=cW w (s:=[58]) W;refine cH R w _ [58] W ?_;have ak:=(hx h0).1;have abI:(cq q).ge c:=.xC om;have N:Q.ge c:=by
    rw[m];exact Ct
   refine aB.call _ S N.expect _ _ (λE P D r B H u G Y hy y e p=>?_);have b:eF (gx A R acc q) Y (λg=>∃a,g=acc++[⟨(cq q).dq R 1,[],cY,B',[a]⟩]/\iz a [E,P,D,r,B,H,u,G]):=by
    rw[UU];have J:=pD (R:=R) ac;rw[<-m]at J;refine eF.bind J (RS.stay.expect.trans e) (λs aW aA aq=>?_);exact eF.map (eF.val aA N e p) λa h=>⟨a,by rw[aq],h⟩
   apply aZ<;>intro h1
   ·refine cN ?_;have ab:Y.e≠0:=λI=>by rw[I]at h1;cases h1
    refine cy ?_;refine a8 0 ⟨Z,Z,.cu,.cu,Y,hy,y,(λh=>Y' h0 h),⟨_,.nil⟩,⟨_,.nil⟩,aiH _,λ_=>?_,Z⟩;rw[vZ];cases d:gx A R acc q with
    |bad aL I=>rw[d]at b;exact b
    |ok g q=>rw[d]at b;exact Y' (by rw[b.1];try rfl) ab
   refine cN ?_;have l:Y.e=0:=jq h1;obtain⟨a,q1,z,ay,T⟩:∃a q1,gx A R acc q=.ok (acc++[⟨(cq q).dq R 1,[],cY,B',[a]⟩]) q1/\Y=cq q1/\iz a [E,P,D,r,B,H,u,G]:=by
    cases d:gx A R acc q with
    |bad aL I=>rw[d]at b;exact Y' (b.2.2.symm.trans l) b.1
    |ok g q=>rw[d]at b;obtain⟨ae,a,rfl,ar⟩:=b;exact⟨a,q,rfl,ae,ar⟩
   have aH:(cq q).dq R 1 ∉ acc.map dg.n:=λaO=>by
    rw[a_ aO]at ac;rw[ac,X' rfl]at m;have af:Q.e≠0:=by
     rw[m,RS.fail];all_goals grind
    have ae:=(RS.stay.expect.trans e) af;rw[ae]at l;exact af l
   have y3:=ai.ins (v:=[]) aH T;rw[z]at vZ;dsimp only at vZ;subst ay;have an:=NH ((cz dg.n acc).map dg.n) ((cq q).dq R 1);rw[aiu,fg]at an;obtain⟨aa,aK⟩:∃aa,aa=p9 ((cz dg.n acc).map dg.n) ((cq q).dq R 1):=⟨_,rfl⟩;rw[<-aK]at y3 an⊢;have⟨aw,av⟩:=ai.len;have EI:aa<=j' xs:=om;have hkt:aa<=j' ks:=om;have hk0:0<j' ks:=om;have ao:aa=j' xs->aa=j' ks:=λh=>om;clear b ac m W U S N e p;obtain⟨jQ,K⟩:∃jQ,jQ=xs.take aa++EG ((cq q).dq R 1) []::xs.drop aa:=⟨_,rfl⟩;obtain⟨jX,L⟩:∃jX,jX=ks.take aa++[E,P,D,r,B,H,u,G]::ks.drop aa:=⟨_,rfl⟩;rw[<-K,<-L]at y3;have aP:j' jQ=j' xs+1:=by rw[K];simp only[aiz,aiE,aiC,aiD];omega
   have aQ:j' jX=j' ks+1:=by rw[L];simp only[aiz,aiE,aiC,aiD];omega
   have⟨_,aC⟩:=QN w al (p:=q) om ah z;apply de (ι:=Nat×Nat) (T:=λX=>aep fin X.1 X.2 jQ jX) (S:=λ_=>tu R (cq q) (cq q1)) (I:=λ_=>True)
   ·intro hC;by_cases am:aa=0
    ·repeat first
      |refine bZ rfl ?_
      |refine Fl ?_
      |intro X
      |refine kf ?_
     refine ck.freeze 6 [(1,cv fin),(2,.bp 0 0),(6,.bp 1 0),(7,.ms 6 8 0 (j' jQ) (j' jQ)),(8,.ms 9 8 0 (j' jX) (j' jX)),(11,.bp 2 0)] (es:=8) (els:=jQ.map λI=>I.map V.d) (l:=jQ) (d_ (λF=>q' (cX.row 8 F)) (by rw[K];exact(yF _ _ _ _ am))) (dF _) ⟨Z,Z,Z,jW Ag,jW Ag,Z,tv⟩ ⟨tv,tv,tv,λ_=>⟨Z,aiB (aiA _)⟩,(λh=>by cases h),tv,tv⟩ (λbL=>?_);refine ck.freeze 9 [(1,cv fin),(2,.bp 0 0),(6,.bp 1 0),(7,.d (.ps bL 0 8 (j' jQ) jQ)),(8,.ms 9 8 0 (j' jX) (j' jX)),(11,.bp 2 0)] (es:=8) (els:=jX.map λI=>I.map V.d) (l:=jX) (d_ (λF=>q' (cX.row 8 F)) (by rw[L];exact(yF _ _ _ _ am))) (dF _) ⟨Z,Z,Z,oN Z,Z,Z,tv⟩ ⟨tv,tv,tv,tv,λ_=>⟨Z,aiB (aiA _)⟩,tv,tv⟩ (λbK=>?_);exact Ce
    by_cases aj:aa=j' xs
    ·repeat first
      |refine bZ rfl ?_
      |refine Fl ?_
      |intro X
      |refine kf ?_
     refine ck.freeze 6 [(1,cv fin),(2,.bp 0 0),(6,.bp 1 0),(7,.ms 6 8 0 (j' jQ) (j' jQ)),(8,.ms 9 8 0 (j' jX) (j' jX)),(11,.bp 2 0)] (es:=8) (els:=jQ.map λI=>I.map V.d) (l:=jQ) (d_ (λF=>q' (cX.row 8 F)) (by rw[K];exact(yG _ _ _ _ aj))) (dF _) ⟨Z,Z,Z,jW Ag,jW Ag,Z,tv⟩ ⟨tv,tv,tv,λ_=>⟨Z,aiB (aiA _)⟩,(λh=>by cases h),tv,tv⟩ (λbL=>?_);refine ck.freeze 9 [(1,cv fin),(2,.bp 0 0),(6,.bp 1 0),(7,.d (.ps bL 0 8 (j' jQ) jQ)),(8,.ms 9 8 0 (j' jX) (j' jX)),(11,.bp 2 0)] (es:=8) (els:=jX.map λI=>I.map V.d) (l:=jX) (d_ (λF=>q' (cX.row 8 F)) (by rw[L];exact(yG _ _ _ _ (ao aj)))) (dF _) ⟨Z,Z,Z,oN Z,Z,Z,tv⟩ ⟨tv,tv,tv,tv,λ_=>⟨Z,aiB (aiA _)⟩,tv,tv⟩ (λbK=>?_);exact Ce
    repeat first
     |refine bZ rfl ?_
     |refine Fl ?_
     |intro X
     |refine kf ?_
    refine ck.freeze 7 [(1,cv fin),(2,.bp 0 0),(6,.bp 1 0),(7,.ms 7 8 0 (j' jQ) (j' jQ)),(8,.ms 11 8 0 (j' jX) (j' jX)),(11,.bp 2 0)] (es:=8) (els:=jQ.map λI=>I.map V.d) (l:=jQ) (d_ (λF=>q' (cX.row 8 F)) (by rw[K];exact(yE _ _ _ _))) (dF _) ⟨Z,Z,Z,jW Ag,jW Ag,Z,tv⟩ ⟨tv,tv,tv,λ_=>⟨Z,aiB (aiA _)⟩,(λh=>by cases h),tv,tv⟩ (λbL=>?_);refine ck.freeze 11 [(1,cv fin),(2,.bp 0 0),(6,.bp 1 0),(7,.d (.ps bL 0 8 (j' jQ) jQ)),(8,.ms 11 8 0 (j' jX) (j' jX)),(11,.bp 2 0)] (es:=8) (els:=jX.map λI=>I.map V.d) (l:=jX) (d_ (λF=>q' (cX.row 8 F)) (by rw[L];exact(yE _ _ _ _))) (dF _) ⟨Z,Z,Z,oN Z,Z,Z,tv⟩ ⟨tv,tv,tv,tv,λ_=>⟨Z,aiB (aiA _)⟩,tv,tv⟩ (λbK=>?_);exact Ce
   rintro⟨bL,bK⟩ _;refine cL R (cq q1) [44] hy ?_;rw[ga];cases Ap:cG (R.tok q1) [44]with
   |false=>
    refine cH R w (cq q1) fin hy ?_;refine a8 0 ⟨Z,Z,Ao y3 (by first|omega|(show 1<=j' R.ts;omega)) (cW w hy) y.expect (λh=>Y' h0 h) (λ_=>?_)⟩;rw[vZ];exact Ju
   |true=>
    refine cT R (cq q1) (by show q1<4294967296;have:q1<j' R.ts:=hy;omega) ?_;have xH:cG (R.tok q1) fin=B':=by
     exact Kl
    exact I4
def ag6:Nat->Bool:=λa=>aiF a 64||aiF a 76||aiF a 1000014||aiF a 1000008
def avT(d e:Nat)(a b:n_ cP):Tm:=[(1,.bp 0 0),(4,.bp 1 0),(5,.d (.ps d 0 8 (j' a) a)),(6,.d (.ps e 0 8 (j' b) b))]
def aer(d e:Nat)(a b:n_ cP):Tm:=[(1,.bp 0 0),(4,.bp 1 0),(5,.d (.ps d 0 8 (j' a) a)),(6,.d (.ps e 0 8 (j' b) b)),(9,.bp 2 0)]
def afE(d e:Nat)(a b:n_ cP)(f:cC)(g:Nat):Tm:=[(1,.bp 0 0),(4,.bp 1 0),(5,.d (.ps d 0 8 (j' a) a)),(6,.d (.ps e 0 8 (j' b) b)),(7,cv f),(9,.bp 2 0),(10,cl g)]
theorem adt{R:Rd}(w:R.Wf)(aE:mz dR one A R c)(am:jP R c A)(x:RS)(hp:x.p<j' R.ts)(hx:x.ge c):
  b7 C cm yN [x.v R] [] λaY aL=>aL=[]/\da aY=A'/\GvP (ec (fX A R) R [125] []) R c x aY:=by
 have aP:=w.len;refine cB ag6 (λ_=>Z) ?_;refine cL R x [125] hp ?_;cases hfi:x.is R [125]with
 |true=>
  exact I2
 |false=>
  refine ck.loop ?_;refine dv R w x 1 hp ?_;refine qX 2 Z (λar=>?_);refine iG [] _ ar 0 dc ?_;refine gU ?_;have ap:=fB w (k:=1) dc hp;have y:=fB w (k:=1) dc ap;have T:=cW w (s:=[61,62]) y;refine dv R w _ 1 ap ?_;refine cH R w _ [61,62] y ?_;refine aE.call _ T (hx.word.word.expect) _ _ (λG u P B F K E J Y hy D e p=>?_);have S:x.stay Y:=((RS.stay.word.trans .word).trans .expect).trans e;have b:x.e=0->eF (fX A R [] x.p) Y (λg=>∃a,g=[⟨x.dq R 1,(x.word R 1).dq R 1,cY,B',[a]⟩]/\iz a [G,u,P,B,F,K,E,J]):=λh0=>by
   have hat:=eH hx h0;rw[UW];have L:=pD (R:=R) (acc:=[]) (q:=x.p) (b:=B') sm;rw[W' (λh=>by cases h),<-hat]at L;refine eF.bind L ((RS.stay.word.trans .expect).trans e) (λs q ah au=>?_);have aj:=eF.name R q;rw[<-ah]at aj;refine eF.bind aj (RS.stay.expect.trans e) (λv q2 hq2 aw=>?_);refine eF.map (eF.val hq2 hx.word.word e p) λa h=>⟨a,by rw[au,aw];try rfl,h⟩
  have ad:x.e=0->ec (fX A R) R [125] [] x.p=fh (fX A R) R [125] (j' R.ts) [] x.p:=λh0=>by rw[ec,W' (by rw[cJ hfi h0];decide)]
  apply aZ<;>intro h1
  ·refine cN ?_;have ab:Y.e≠0:=λr=>by rw[r]at h1;cases h1
   refine cy ?_;refine a8 0 ⟨Z,Z,.cu,.cu,Y,hy,D,S,⟨_,.nil⟩,⟨_,.nil⟩,aiH _,λh0=>?_,Z⟩;rw[ad h0];obtain⟨f,L⟩:∃f,j' R.ts=f+1:=⟨j' R.ts-1,om⟩;rw[L,fh];have z:=b h0;cases d:fX A R [] x.p with
   |bad aO r=>rw[d]at z;exact z
   |ok g q=>rw[d]at z;exact Y' (by rw[z.1];try rfl) ab
  refine cN ?_;have l:Y.e=0:=jq h1;have h0:x.e=0:=by
   by_cases h:x.e=0
   ·exact h
   rw[S h]at l;exact Y' l h
  have hat:=eH hx h0;obtain⟨a,q1,I,rfl,U⟩:∃a q1,fX A R [] x.p=.ok [⟨x.dq R 1,(x.word R 1).dq R 1,cY,B',[a]⟩] q1/\Y=cq q1/\iz a [G,u,P,B,F,K,E,J]:=by
   have z:=b h0;cases d:fX A R [] x.p with
   |bad aO r=>rw[d]at z;exact Y' (z.2.2.symm.trans l) z.1
   |ok g q=>rw[d]at z;obtain⟨ae,a,rfl,av⟩:=z;exact⟨a,q,rfl,ae,av⟩
  have y3:Rb [⟨x.dq R 1,(x.word R 1).dq R 1,cY,B',[a]⟩] [EG (x.dq R 1) ((x.word R 1).dq R 1)] [[G,u,P,B,F,K,E,J]]:=Rb.ins (acc:=[]) (xs:=[]) (ks:=[]) ⟨.nil,.nil,by simp[Rh],by simp⟩ sm U;obtain⟨f0,aH⟩:∃f,j' R.ts=f+1:=⟨j' R.ts-1,om⟩;have o:=ad h0;rw[aH,fh,I]at o;dsimp only at o;repeat first
   |refine bZ rfl ?_
   |intro X
   |refine Fl ?_
   |refine b9 rfl ?_
   |refine a7 rfl ?_
  refine ck.freeze 7 [(1,.bp 0 0),(4,.bp 1 0),(5,.ms 7 8 0 1 1),(6,.ms 9 8 0 1 1),(9,.bp 4 0)] (l:=[EG (x.dq R 1) ((x.word R 1).dq R 1)]) Z Z ⟨Z,Z,Z,Z,Z,tv⟩ ⟨tv,tv,λ_=>⟨Z,aiv _⟩,(λh=>by cases h),tv,tv⟩ (λbL=>?_);refine ck.freeze 9 [(1,.bp 0 0),(4,.bp 1 0),(5,.d (.ps bL 0 8 1 [EG (x.dq R 1) ((x.word R 1).dq R 1)])),(6,.ms 9 8 0 1 1),(9,.bp 4 0)] (l:=[[G,u,P,B,F,K,E,J]]) Z Z ⟨Z,Z,Z,Z,Z,tv⟩ ⟨tv,tv,tv,λ_=>⟨Z,aiv _⟩,tv,tv⟩ (λbK=>?_);refine ck.arr (fx:=aer bL bK [EG (x.dq R 1) ((x.word R 1).dq R 1)] [[G,u,P,B,F,K,E,J]]) (gA:=tu R x (cq q1)) (.eP 2 [0,1,4]) ?_;refine gU ?_;refine cL R (cq q1) [44] hy ?_;rw[ga];cases Ap:cG (R.tok q1) [44]with
  |false=>
   refine cH R w (cq q1) [125] hy ?_;refine a8 0 ⟨Z,Z,Ao y3 (by first|omega|(show 1<=j' R.ts;omega)) (cW w hy) D.expect (λh=>Y' h0 h) (λ_=>?_)⟩;rw[o];exact Js
  |true=>
   refine cT R (cq q1) (by show q1<4294967296;have:q1<j' R.ts:=hy;omega) ?_;have xH:cG (R.tok q1) [125]=B':=by
    exact Kb
   have hq2:q1+1<j' R.ts:=w.step hy Ap;rw[W' (by rw[xH];decide),cw,X' Ap,cw]at o;dsimp only at o
   skip
   have al:=(hx h0).1;have⟨aF,_⟩:=QO w am al hp I;refine ck.iter (λg:Nat×n_ dg×n_ cP×n_ cP×Nat×Nat=>avT g.2.2.2.2.1 g.2.2.2.2.2 g.2.2.1 g.2.2.2.1) (λg=>gvS R (cq g.1)) (λg=>j' R.ts-g.1)
    (λg=>x.p<g.1/\g.1<j' R.ts/\Rb g.2.1 g.2.2.1 g.2.2.2.1/\0<j' g.2.2.1/\j' g.2.2.1<=g.1/\∃f,j' R.ts-g.1<=f/\ec (fX A R) R [125] [] x.p=fh (fX A R) R [125] f g.2.1 g.1) ?_ (q1+1,_,_,_,bL,bK) ⟨by show x.p<q1+1;omega,hq2,y3,Nat.zero_lt_one,by show 1<=q1+1;omega,f0,by show (j' R.ts)-(q1+1)<=f0;omega,o⟩ (.eD 2)
   rintro⟨q,acc,xs,ks,bL,bK⟩ ⟨aJ,aG,aM,aC,aA,f,ax,aI⟩;have aV:x.p<q:=aJ;have ah:q<j' R.ts:=aG;have ai:Rb acc xs ks:=aM;have hx0:0<j' xs:=aC;have aW:j' xs<=q:=aA;have L:j' R.ts-q<=f:=ax;have vZ:ec (fX A R) R [125] [] x.p=fh (fX A R) R [125] f acc q:=aI;clear aJ aG aM aC aA ax aI y3 o U I e p b h1 l hy D S ad;obtain⟨f,rfl⟩:∃k,f=k+1:=⟨f-1,om⟩;rw[fh]at vZ;have⟨az,ay⟩:=ai.len;have aX:j' ((cz dg.n acc).map dg.rO)=j' acc:=by rw[aiu,fg]
   refine dv R w (cq q) 1 ah ?_;refine vq _ xs ((cz dg.n acc).map dg.n) (by rw[aiW];try rfl) ai.rO om bL _ (λar=>?_);refine iG ((cz dg.n acc).map dg.n) _ ar _ (by rw[aiu,fg];omega) ?_;rw[ai.mem];obtain⟨X,ac⟩:∃X,X=decide ((cq q).dq R 1∈acc.map dg.n):=⟨_,rfl⟩;rw[<-ac];have y:=fB w (x:=cq q) (k:=1) dc ah;have W:(if X then((cq q).word R 1).fail (R.tok q).off 5 else(cq q).word R 1).p<j' R.ts:=by
    all_goals grind [nF]
   obtain⟨t,m⟩:∃t,t=(if X then((cq q).word R 1).fail (R.tok q).off 5 else(cq q).word R 1):=⟨_,rfl⟩;rw[<-m]at W;apply de (ι:=Unit) (T:=λ_=>afE bL bK xs ks ((cq q).dq R 1) (p9 ((cz dg.n acc).map dg.n) ((cq q).dq R 1))) (S:=λ_=>tu R (cq q) t) (I:=λ_=>True)
   ·intro hC;apply aZ<;>intro h1
    ·refine cN ?_;refine kD R _ (R.tok q).off 5 ?_;refine ck.arr (fx:=afE bL bK xs ks ((cq q).dq R 1) (p9 ((cz dg.n acc).map dg.n) ((cq q).dq R 1))) (gA:=tu R (cq q) t) (.same ⟨Z,Z,Z,Z,Z,Z,Z,tv⟩ ?_) (hC () trivial);rw[m,X' h1];try rfl
    refine cN ?_;refine ck.arr (fx:=afE bL bK xs ks ((cq q).dq R 1) (p9 ((cz dg.n acc).map dg.n) ((cq q).dq R 1))) (gA:=tu R (cq q) t) (.same ⟨Z,Z,Z,Z,Z,Z,Z,tv⟩ ?_) (hC () trivial);rw[m,h1];try rfl
   intro _ _;have y:=fB w (k:=1) dc W;have T:=cW w (s:=[61,62]) y;refine dv R w _ 1 W ?_;refine cH R w _ [61,62] y ?_;have al:=(hx h0).1;have abI:(cq q).ge c:=.xC om;have Q:t.ge c:=by
    rw[m];exact Ct
   refine aE.call _ T Q.word.expect _ _ (λG u P B F K E J Y hy D e p=>?_);have b:eF (fX A R acc q) Y (λg=>∃a,g=acc++[⟨(cq q).dq R 1,t.dq R 1,cY,B',[a]⟩]/\iz a [G,u,P,B,F,K,E,J]):=by
    rw[UW];have L:=pD (R:=R) ac;rw[<-m]at L;refine eF.bind L ((RS.stay.word.trans .expect).trans e) (λs aQ aD au=>?_);have aj:=eF.name R aQ;rw[<-aD]at aj;refine eF.bind aj (RS.stay.expect.trans e) (λv q2 hq2 aw=>?_);exact eF.map (eF.val hq2 Q.word e p) λa h=>⟨a,by rw[au,aw],h⟩
   apply aZ<;>intro h1
   ·refine cN ?_;have ab:Y.e≠0:=λr=>by rw[r]at h1;cases h1
    refine cy ?_;refine a8 0 ⟨Z,Z,.cu,.cu,Y,hy,D,(λh=>Y' h0 h),⟨_,.nil⟩,⟨_,.nil⟩,aiH _,λ_=>?_,Z⟩;rw[vZ];cases d:fX A R acc q with
    |bad aO r=>rw[d]at b;exact b
    |ok g q=>rw[d]at b;exact Y' (by rw[b.1];try rfl) ab
   refine cN ?_;have l:Y.e=0:=jq h1;obtain⟨a,q1,I,aB,U⟩:∃a q1,fX A R acc q=.ok (acc++[⟨(cq q).dq R 1,t.dq R 1,cY,B',[a]⟩]) q1/\Y=cq q1/\iz a [G,u,P,B,F,K,E,J]:=by
    cases d:fX A R acc q with
    |bad aO r=>rw[d]at b;exact Y' (b.2.2.symm.trans l) b.1
    |ok g q=>rw[d]at b;obtain⟨ae,a,rfl,av⟩:=b;exact⟨a,q,rfl,ae,av⟩
   have aK:(cq q).dq R 1 ∉ acc.map dg.n:=λaS=>by
    rw[a_ aS]at ac;rw[ac,X' rfl]at m;have af:t.e≠0:=by
     rw[m,RS.fail];all_goals grind
    have ae:=((RS.stay.word.trans .expect).trans e) af;rw[ae]at l;exact af l
   have y3:=ai.ins (v:=t.dq R 1) aK U;rw[I]at vZ;dsimp only at vZ;subst aB;have ao:=NH ((cz dg.n acc).map dg.n) ((cq q).dq R 1);rw[aiu,fg]at ao;obtain⟨aa,aN⟩:∃aa,aa=p9 ((cz dg.n acc).map dg.n) ((cq q).dq R 1):=⟨_,rfl⟩;rw[<-aN]at y3 ao⊢;have⟨az,ay⟩:=ai.len;have EI:aa<=j' xs:=om;have hkt:aa<=j' ks:=om;have hk0:0<j' ks:=om;have aq:aa=j' xs->aa=j' ks:=λh=>om;clear b ac m W y T Q e p;obtain⟨jQ,M⟩:∃jQ,jQ=xs.take aa++EG ((cq q).dq R 1) (t.dq R 1)::xs.drop aa:=⟨_,rfl⟩;obtain⟨jX,N⟩:∃jX,jX=ks.take aa++[G,u,P,B,F,K,E,J]::ks.drop aa:=⟨_,rfl⟩;rw[<-M,<-N]at y3;have aT:j' jQ=j' xs+1:=by rw[M];simp only[aiz,aiE,aiC,aiD];omega
   have aU:j' jX=j' ks+1:=by rw[N];simp only[aiz,aiE,aiC,aiD];omega
   have⟨_,aF⟩:=QO w am (p:=q) om ah I;apply de (ι:=Nat×Nat) (T:=λX=>aer X.1 X.2 jQ jX) (S:=λ_=>tu R (cq q) (cq q1)) (I:=λ_=>True)
   ·intro hC;by_cases an:aa=0
    ·repeat first
      |refine bZ rfl ?_
      |refine Fl ?_
      |intro X
      |refine kf ?_
     refine ck.freeze 6 [(1,.bp 0 0),(4,.bp 1 0),(5,.ms 6 8 0 (j' jQ) (j' jQ)),(6,.ms 9 8 0 (j' jX) (j' jX)),(9,.bp 2 0)] (es:=8) (els:=jQ.map λr=>r.map V.d) (l:=jQ) (d_ (λH=>q' (cX.row 8 H)) (by rw[M];exact(yF _ _ _ _ an))) (dF _) ⟨Z,Z,jW Ag,jW Ag,Z,tv⟩ ⟨tv,tv,λ_=>⟨Z,aiB (aiA _)⟩,(λh=>by cases h),tv,tv⟩ (λbL=>?_);refine ck.freeze 9 [(1,.bp 0 0),(4,.bp 1 0),(5,.d (.ps bL 0 8 (j' jQ) jQ)),(6,.ms 9 8 0 (j' jX) (j' jX)),(9,.bp 2 0)] (es:=8) (els:=jX.map λr=>r.map V.d) (l:=jX) (d_ (λH=>q' (cX.row 8 H)) (by rw[N];exact(yF _ _ _ _ an))) (dF _) ⟨Z,Z,oN Z,Z,Z,tv⟩ ⟨tv,tv,tv,λ_=>⟨Z,aiB (aiA _)⟩,tv,tv⟩ (λbK=>?_);exact Cf
    by_cases ak:aa=j' xs
    ·repeat first
      |refine bZ rfl ?_
      |refine Fl ?_
      |intro X
      |refine kf ?_
     refine ck.freeze 6 [(1,.bp 0 0),(4,.bp 1 0),(5,.ms 6 8 0 (j' jQ) (j' jQ)),(6,.ms 9 8 0 (j' jX) (j' jX)),(9,.bp 2 0)] (es:=8) (els:=jQ.map λr=>r.map V.d) (l:=jQ) (d_ (λH=>q' (cX.row 8 H)) (by rw[M];exact(yG _ _ _ _ ak))) (dF _) ⟨Z,Z,jW Ag,jW Ag,Z,tv⟩ ⟨tv,tv,λ_=>⟨Z,aiB (aiA _)⟩,(λh=>by cases h),tv,tv⟩ (λbL=>?_);refine ck.freeze 9 [(1,.bp 0 0),(4,.bp 1 0),(5,.d (.ps bL 0 8 (j' jQ) jQ)),(6,.ms 9 8 0 (j' jX) (j' jX)),(9,.bp 2 0)] (es:=8) (els:=jX.map λr=>r.map V.d) (l:=jX) (d_ (λH=>q' (cX.row 8 H)) (by rw[N];exact(yG _ _ _ _ (aq ak)))) (dF _) ⟨Z,Z,oN Z,Z,Z,tv⟩ ⟨tv,tv,tv,λ_=>⟨Z,aiB (aiA _)⟩,tv,tv⟩ (λbK=>?_);exact Cf
    repeat first
     |refine bZ rfl ?_
     |refine Fl ?_
     |intro X
     |refine kf ?_
    refine ck.freeze 7 [(1,.bp 0 0),(4,.bp 1 0),(5,.ms 7 8 0 (j' jQ) (j' jQ)),(6,.ms 11 8 0 (j' jX) (j' jX)),(9,.bp 2 0)] (es:=8) (els:=jQ.map λr=>r.map V.d) (l:=jQ) (d_ (λH=>q' (cX.row 8 H)) (by rw[M];exact(yE _ _ _ _))) (dF _) ⟨Z,Z,jW Ag,jW Ag,Z,tv⟩ ⟨tv,tv,λ_=>⟨Z,aiB (aiA _)⟩,(λh=>by cases h),tv,tv⟩ (λbL=>?_);refine ck.freeze 11 [(1,.bp 0 0),(4,.bp 1 0),(5,.d (.ps bL 0 8 (j' jQ) jQ)),(6,.ms 11 8 0 (j' jX) (j' jX)),(9,.bp 2 0)] (es:=8) (els:=jX.map λr=>r.map V.d) (l:=jX) (d_ (λH=>q' (cX.row 8 H)) (by rw[N];exact(yE _ _ _ _))) (dF _) ⟨Z,Z,oN Z,Z,Z,tv⟩ ⟨tv,tv,tv,λ_=>⟨Z,aiB (aiA _)⟩,tv,tv⟩ (λbK=>?_);exact Cf
   rintro⟨bL,bK⟩ _;refine cL R (cq q1) [44] hy ?_;rw[ga];cases Ap:cG (R.tok q1) [44]with
   |false=>
    refine cH R w (cq q1) [125] hy ?_;refine a8 0 ⟨Z,Z,Ao y3 (by first|omega|(show 1<=j' R.ts;omega)) (cW w hy) D.expect (λh=>Y' h0 h) (λ_=>?_)⟩;rw[vZ];exact Js
   |true=>
    refine cT R (cq q1) (by show q1<4294967296;have:q1<j' R.ts:=hy;omega) ?_;have xH:cG (R.tok q1) [125]=B':=by
     exact Kb
    exact I4
def XK(b:Nat->PR Ty)(d:Rd)(a:n_ dg)(h:Nat):PR (cC×Ty):=(eg d a h).bind λf e=>(cw d [[58]] e).bind λ_ q1=>(b q1).map λg=>(f,g)
def UX(d:Nat->PR Ty)(f:Nat->PR Ex)(g:Rd)(a:n_ dg)(h:Nat):eA d f g a h=(XK d g a h).bind λb e=>if cG (g.tok e) [61]then(f (e+1)).map λj=>a++[⟨b.1,[],b.2,A',[j]⟩]else .ok (a++[⟨b.1,[],b.2,B',[]⟩]) e:=by
 unfold eA XK PR.bind;cases eg g a h with
 |bad k i=>rfl
 |ok s e=>
  dsimp only;cases cw g [[58]] e with
  |bad k i=>rfl
  |ok l q1=>
   dsimp only;cases d q1<;>rfl
def adu(a:dg)(k:cP):Prop:=∃i j b d h f g e,k=[i,j,b,d,h,f,g,e]/\(a.lM=B'/\a.val=[]∨a.lM=A'/\∃l,a.val=[l]/\iz l k)
inductive EH:List dg->List cP->Prop
 |nil:EH [] []
 |cons {p:dg} {d:cP} {l:List dg} {ds:List cP} (h:adu p d) (hl:EH l ds):EH (p::l) (d::ds)
def EH.len(b:EH B F):j' F=j' B:=by
 induction b with
 |nil=>rfl
 |cons _ _ a=>simp[a]
def EH.ins{f:dg}(g:EH B F)(a:adu f Y)(t:Nat):EH (B.take t++f::B.drop t) (F.take t++Y::F.drop t):=by
 induction g generalizing t with
 |nil=>cases t<;>exact .cons a .nil
 |cons b e d=>
  cases t with
  |zero=>exact .cons a (.cons b e)
  |succ t=>exact .cons b (d t)
theorem EH.get(f:EH B F){i:Nat}(a:i<j' B):∃e,F[i]?=q' e/\adu B[i] e:=by
 induction f generalizing i with
 |nil=>simp at a
 |cons d g b=>
  cases i with
  |zero=>exact⟨_,rfl,d⟩
  |succ i=>simpa using b (by simpa using a)
def QQ(b:n_ (dg×cP)):n_ cP:=b.filterMap λa=>if a.1.lM then q' a.2 else none
def UY(n:EH B F):ir (B.flatMap dg.val) (QQ (B.zip F)):=by
 induction n with
 |nil=>exact .nil
 |cons a h e=>
  rename_i t v B F;obtain⟨q,j,k,l,p,m,o,i,g,a⟩:=a;rcases a with⟨b,d⟩|⟨b,s,d,f⟩
  ·rw[aiL,d,aiY,QQ,aiX,b];exact e
  rw[aiL,d,aiY,QQ,aiX,b];exact .cons f e
theorem QR(b:c<j' B)(a:F[c]?=q' Y):QQ ((B.zip F).take (c+1))=QQ ((B.zip F).take c)++(if B[c].lM then [Y]else []):=by
 grind [aiP,QQ,List.filterMap]
def Fe(a:n_ (dg×cP)):j' (QQ a)<=j' a:=List.length_filterMap_le _ _
structure N2 (acc:List dg) (xs ks:List cP):Prop where
 rO:od ((cz dg.n acc).map dg.rO) xs
 dfl:EH (cz dg.n acc) ks
 nd:(acc.map dg.n).Nodup
def N2.nil:N2 [] [] []:=⟨.nil,.nil,by simp⟩
theorem N2.len{a:n_ dg}{b d:n_ cP}(e:N2 a b d):j' b=j' a/\j' d=j' a:=by
 have g:=e.rO.len;have f:=e.dfl.len
 grind [aiu,fg]
theorem N2.mem{b:n_ cP}(d:N2 B F b)(a:cC):decide (((cz dg.n B).map dg.n)[p9 ((cz dg.n B).map dg.n) a]?=q' a)=decide (a∈B.map dg.n):=by
 rw[NJ (ii d.nd)]
 grind [dU]
def Tz(d:cC)(e g b f a:D)(h:Bool):cP:=[.str d,.str [],e,g,b,f,a,.bool h]
def NM(a:dg)(d:cC)(b:cP)(f:Bool)(e:cP):Prop:=a.n=d/\a.v=[]/\a.lM=f/\fF a.ty b/\adu a e
def N2.ins{acc:n_ dg}{xs ks:n_ cP}{b:cC}{a:dg}{j e d f g:D}{o:Bool}{s:cP}(h:N2 acc xs ks)(t:b ∉ acc.map dg.n)(k:NM a b [j,e,d,f,g] o s):
  N2 (acc++[a]) (xs.take (p9 ((cz dg.n acc).map dg.n) b)++Tz b j e d f g o::xs.drop (p9 ((cz dg.n acc).map dg.n) b)) (ks.take (p9 ((cz dg.n acc).map dg.n) b)++s::ks.drop (p9 ((cz dg.n acc).map dg.n) b)):=by
 obtain⟨rfl,p,m,n,q⟩:=k;have i:cz dg.n (acc++[a])=(cz dg.n acc).take (p9 ((cz dg.n acc).map dg.n) a.n)++a::(cz dg.n acc).drop (p9 ((cz dg.n acc).map dg.n) a.n):=by
  rw[xg,NI]
 refine⟨?_,?_,?_⟩
 ·rw[i,aiN,aiT,aiR,aiS];have l:Tz a.n j e d f g o=Ip a.rO [j,e,d,f,g]:=by
   rw[<-m];show _=[D.str a.n,.str a.v,j,e,d,f,g,.bool a.lM];rw[p];try rfl
  rw[l];exact h.rO.ins n _
 ·rw[i];exact h.dfl.ins q _
 exact xJ
def QS(n:E.Wf)(h:∀p q d,c<=p->p<j' E.ts->r p=.ok q d->p<d/\d<j' E.ts)(l:jP E c A){p d:Nat}(v:c<=p)(g:p<j' E.ts)(a:eA r A E B p=.ok X d):p<d/\d<j' E.ts:=by
 rw[eA]at a;cases e:eg E B p with
 |bad o t=>rw[e]at a;cases a
 |ok s q1=>
  rw[e]at a;dsimp only at a;have⟨f1,f2⟩:=q9 n g e;cases b:cw E [[58]] q1 with
  |bad o t=>rw[b]at a;cases a
  |ok y q2=>
   rw[b]at a;dsimp only at a;have⟨x,m⟩:=p2 n f2 b;cases f:r q2 with
   |bad o t=>rw[f]at a;cases a
   |ok q q3=>
    rw[f]at a;dsimp only at a;have⟨t1,t2⟩:=h _ _ _ om m f;split at a
    ·rename_i j;obtain⟨z,k,rfl⟩:=fR a;have⟨w,i⟩:=l _ _ _ om (n.step t2 j) k;exact⟨om,i⟩
    cases a;exact⟨om,t2⟩
def QT{d:RS}{p s q n o:D}(j:eF (eg E B c) G (λe=>K=e))(m:G.ge J)(b:(G.expect E [58]).stay d)(a:(G.expect E [58]).e=0->eF (r (G.expect E [58]).p) d (λt=>fF t [p,s,q,n,o])):
  eF (XK r E B c) d (λg=>g.1=K/\fF g.2 [p,s,q,n,o]):=by
 rw[XK];refine eF.bind j (RS.stay.expect.trans b) (λe l h k=>?_);have i:=kL E l [58];rw[<-h]at i;refine eF.bind i b (λw q1 f _=>?_);rw[f]at a;exact eF.map (a Z) λt v=>⟨k.symm,v⟩
def Hk{q v t o p n f g h m i l e:D}(w:eF (XK r E B c) G (λa=>a.1=K/\fF a.2 [q,v,t,o,p]))(j:G.is E [61]=B'):
  eF (eA r A E B c) G (λx=>∃s,x=B++[s]/\NM s K [q,v,t,o,p] B' [n,f,g,h,m,i,l,e]):=by
 rw[UX];refine eF.bind w (λ_=>Z) (λa q1 b d=>?_);subst b;have k:cG (E.tok q1) [61]=B':=cJ j rfl;rw[W' (by rw[k];decide)];exact .ok ⟨_,Z,d.1,Z,Z,d.2,_,_,_,_,_,_,_,_,Z,.inl ⟨Z,Z⟩⟩
def Hl{e:RS}{y I C v x o h i j n k m g:D}(R:eF (XK r E B c) G (λd=>d.1=K/\fF d.2 [y,I,C,v,x]))(s:G.is E [61]=A')(w:G.next.stay e)(b:G.next.e=0->eF (A G.next.p) e (λV=>iz V [o,h,i,j,n,k,m,g])):
  eF (eA r A E B c) e (λu=>∃z,u=B++[z]/\NM z K [y,I,C,v,x] A' [o,h,i,j,n,k,m,g]):=by
 rw[UX];have⟨q,a⟩:=c9 s;refine eF.bind R (λp=>Y' q p) (λd q1 f l=>?_);subst f;have a:cG (E.tok q1) [61]=A':=a;rw[X' a];exact eF.map (b Z) λP t=>⟨_,Z,l.1,Z,Z,l.2,_,_,_,_,_,_,_,_,Z,.inr ⟨Z,P,Z,t⟩⟩
def aef:Nat->Bool:=λa=>aiF a 70||aiF a 82||aiF a 108||aiF a 1000008||aiF a 1000014||aiF a 1000018
def fvA(a b:V)(d:Nat):Tm:=[(1,.bp 0 0),(4,.bp 1 0),(5,a),(6,b),(9,.bp d 0)]
def aic(a b:V):Tm:=[(1,.bp 0 0),(4,.bp 1 0),(5,a),(6,b)]
def fvB(e b:V)(f:Nat)(a:cC)(d:Nat):Tm:=[(1,.bp 0 0),(4,.bp 1 0),(5,e),(6,b),(7,cv a),(9,.bp f 0),(10,cl d)]
def fvC(f d:V)(g a b e:Nat):Tm:=[(1,.bp 0 0),(4,.bp 1 0),(5,f),(6,d),(9,.bp g 0),(10,cl e),(12,.bp a 0),(13,.bp b 0)]
def fvD(d e:Nat)(a b:n_ cP)(f g:Nat):Tm:=[(4,.bp 1 0),(5,.d (.ps d 0 8 (j' a) a)),(6,.d (.ps e 0 8 (j' b) b)),(9,.bp 2 0),(14,.ms 3 8 0 f f),(15,cl g)]
def fvS(i:Rd)(e:cC)(f g d h b:D)(a:(D×D×D×D×D×D×D×D)×Bool×RS):VS:=[.box (B0 i a.2.2),.box [cv e,cv [],.d f,.d g,.d d,.d h,.d b,cj a.2.1],.box [.d a.1.1,.d a.1.2.1,.d a.1.2.2.1,.d a.1.2.2.2.1,.d a.1.2.2.2.2.1,.d a.1.2.2.2.2.2.1,.d a.1.2.2.2.2.2.2.1,.d a.1.2.2.2.2.2.2.2]]
theorem N2.get{a:n_ dg}{m g:n_ cP}(v:N2 a m g){i:Nat}(b:i<j' (cz dg.n a)):∃V x C P I w y t j k l s n q h,m[i]?=q' [.str V,.str x,C,P,I,w,y,.bool (cz dg.n a)[i].lM]/\g[i]?=q' [t,j,k,l,s,n,q,h]:=by
 have e:=v.rO;have d:=v.dfl;revert e d b;generalize cz dg.n a=u;intro b e d;obtain⟨r,o,p⟩:=e.get (i:=i) (by rw[aiu];exact b);obtain⟨z,c,tn,D,R,rfl⟩:=p.dL;obtain⟨d2,f,t,j,k,l,s,n,q,h,rfl,_⟩:=d.get b;simp only[List.getElem_map]at o;exact⟨_,_,_,_,_,_,_,_,_,_,_,_,_,_,_,o,f⟩
theorem Ec{e q1:Nat}{s:cC}(f:eA r A E B e=.ok X q1)(a:eF (eg E B e) G (λb=>s=b)):s ∉ B.map dg.n:=by
 rw[eA]at f;cases d:eg E B e with
 |bad h i=>rw[d]at f;cases f
 |ok b g=>
  rw[d]at a;obtain⟨_,rfl⟩:=a;all_goals grind [eg]
theorem vY(b:L=F.map λa=>a.map V.d):q' (cX.row 8 L)=q' (eb W (.row 8 (F.map λa=>a.map V.d))):=by
 grind [k9]
def FvP(fn:Nat->PR (n_ dg))(h:Rd)(i:Nat)(g:RS)(j:dt)(e:VS):Prop:=
 (∃(a:D) (d:RS),e=[]/\d.p<j' h.ts/\d.ge i/\g.stay d/\d.e≠0/\(∃f,e9 f a)/\(g.e=0->eF (fn g.p) d (λ_=>False))/\j=.ret (.dP [.d a,.d .cu,d.v h]))∨
 (∃(a:D) (b:n_ cP) (d:RS),e=[.row 8 (b.map λk=>k.map V.d)]/\j' b<=j' h.ts/\d.p<j' h.ts/\d.ge i/\g.stay d/\(∃f,e9 f a)/\(∃f,ir f b)/\(g.e=0->eF (fn g.p) d (λf=>e9 ((cz dg.n f).map dg.rO) a/\ir ((cz dg.n f).flatMap dg.val) b))/\j=.ret (.dP [.d a,.ms 0 8 0 (j' b) (j' b),d.v h]))
def Hm{j a:Nat}{d0:D}{ks:n_ cP}(d:nth H j=q' (.row 8 (ks.map λb=>b.map V.d))) 
  (e:u (.ret (.dP [.d d0,.ms 0 8 0 a a,G.v E])) [.row 8 (ks.map λb=>b.map V.d)]):cV 0 (.ret (.dP [.d d0,.ms j 8 0 a a,G.v E])) H u:=
 cV.pick [j] (r0:=.ret (.dP [.d d0,.ms 0 8 0 a a,G.v E])) (gA:=[.row 8 (ks.map λb=>b.map V.d)]) rfl rfl rfl sm ⟨by rw[d];exact d_ q' (k9 _ 8 ks).symm,fU _ 8 _,tv⟩ (cV.now rfl e)
theorem afF{i j n m:Nat}{xs ks:n_ cP}{x:RS}(b:i≠j)(h:nth H i=q' (.row 8 (xs.map λd=>d.map V.d)))(s:nth H j=q' (.row 8 (ks.map λd=>d.map V.d)))(k:n=j' xs) 
  (p:∀a,u (.ret (.dP [.d (.ps a 0 8 n xs),.ms 0 8 0 m m,x.v E])) [.row 8 (ks.map λd=>d.map V.d)]):cV 0 (.ret (.dP [.ms i 8 0 n n,.ms j 8 0 m m,x.v E])) H u:=by
 refine cV.freeze i (es:=8) (l:=xs) h (dF xs) (by simp[C1,r4,sv,RS.v,cl,k];exact λt=>Y' t.symm b) (λa=>?_);have o:qL i a xs (.ret (.dP [.ms i 8 0 n n,.ms j 8 0 m m,x.v E]))=.ret (.dP [.d (.ps a 0 8 n xs),.ms j 8 0 m m,x.v E]):=by
  show dt.ret (.dP [jN i a xs (.ms i 8 0 n n),jN i a xs (.ms j 8 0 m m),jN i a xs (x.v E)])=_;have g:jN i a xs (x.v E)=x.v E:=by simp[RS.v,jN,A5,cl]
  have f:jN i a xs (.ms j 8 0 m m)=.ms j 8 0 m m:=by rw[jN,qM (λl=>b l.symm)]
  rw[g,f,jN,gr]
  grind
 rw[o];have e:nth (H.set i .gone) j=q' (.row 8 (ks.map λd=>d.map V.d)):=by
  grind [cx]
 exact Hm e (p a)
def TO{fn:Nat->PR (n_ dg)}{d:RS}{acc:n_ dg}{xs ks:n_ cP}{f:Nat}(a:N2 acc xs ks)(b:j' (QQ ((cz dg.n acc).zip ks))<=j' E.ts)(i:d.p<j' E.ts)(k:d.ge c)(e:G.stay d)(j:G.e=0->eF (fn G.p) d (λl=>l=acc)):
  FvP fn E c G (.ret (.dP [.d (.ps J 0 8 f xs),.ms 0 8 0 (j' (QQ ((cz dg.n acc).zip ks))) (j' (QQ ((cz dg.n acc).zip ks))),d.v E])) [.row 8 ((QQ ((cz dg.n acc).zip ks)).map λm=>m.map V.d)]:=
 .inr ⟨_,_,d,rfl,b,i,k,e,⟨_,.ps a.rO⟩,⟨_,UY a.dfl⟩,λg=>(j g).imp λl h=>by subst h;exact⟨.ps a.rO,UY a.dfl⟩,rfl⟩
theorem QU{R:Rd}(w:R.Wf){ty:Nat->PR Ty}{ex:Nat->PR Ex}(aT:XI dh ty R c)(ba:mz dR one ex R c)(aG:∀p X q,c<=p->p<j' R.ts->ty p=.ok X q->p<q/\q<j' R.ts)(aD:jP R c ex)(p:Nat)(am:c<=p)(ay:p<j' R.ts):
  b7 C cm kx [(cq p).v R] [] (FvP (ec (eA ty ex R) R [41] []) R c (cq p)):=by
 have bj:=w.len;refine cB aef (λ_=>Z) ?_;refine cL R (cq p) [41] ay ?_;rw[ga];cases ax:cG (R.tok p) [41]with
 |true=>
  refine cT R (cq p) (by show p<4294967296;omega) ?_;refine afF (i:=2) (j:=3) (n:=0) (m:=0) (xs:=[]) (ks:=[]) (x:=(cq p).next) dc Z Z Z (λbL=>?_);refine TO (acc:=[]) (xs:=[]) (ks:=[]) N2.nil (aiH _) (w.step ay ax) (RS.ge.next (.xC am)) (λh=>Y' Z h) (λ_=>?_);show eF (ec (eA ty ex R) R [41] [] p) _ _;rw[ec,X' ax];exact .ok Z
 |false=>
  have vZ:ec (eA ty ex R) R [41] [] p=fh (eA ty ex R) R [41] (j' R.ts) [] p:=by rw[ec,W' (by rw[ax];decide)]
  obtain⟨f0,bf⟩:∃E,j' R.ts=E+1:=⟨j' R.ts-1,om⟩;rw[bf,fh]at vZ;refine ck.loop ?_;refine dv R w (cq p) 1 ay ?_;refine qX 2 Z (λaL=>?_);refine iG [] _ aL 0 dc ?_;refine gU ?_;have G:=pD (R:=R) (acc:=[]) (q:=p) (b:=B') sm;rw[W' (λh=>by cases h)]at G;have F:=fB w (x:=cq p) (k:=1) dc ay;have l:((cq p).word R 1).ge c:=RS.ge.word (.xC am);obtain⟨af,W⟩:∃af,af=(cq p).word R 1:=⟨_,rfl⟩;obtain⟨s,aN⟩:∃s,s=(cq p).dq R 1:=⟨_,rfl⟩;rw[<-W]at G F l⊢;rw[<-aN]at G⊢;have ad:=cW w (s:=[58]) F;refine cH R w _ [58] F ?_;refine aT _ ad l.expect _ _ (λk aa ab j E L J S N r=>?_);have Q:=QT G l N r;refine cy ?_;refine cL R L [61] J ?_;apply de (ι:=(D×D×D×D×D×D×D×D)×Bool×RS) (T:=λ_=>fvC (.ms 2 8 0 0 0) (.ms 3 8 0 0 0) 4 5 6 0) (S:=λP=>[.box (B0 R (cq p)),.box y0,.row 8 [],.row 8 []]++fvS R s k aa ab j E P) (I:=λP=>P.2.2.p<j' R.ts/\P.2.2.ge c/\eF (eA ty ex R [] p) P.2.2 (λu=>∃p,u=[]++[p]/\NM p s [k,aa,ab,j,E] P.2.1 [P.1.1,P.1.2.1,P.1.2.2.1,P.1.2.2.2.1,P.1.2.2.2.2.1,P.1.2.2.2.2.2.1,P.1.2.2.2.2.2.2.1,P.1.2.2.2.2.2.2.2]))
  ·intro hC;cases K:L.is R [61]with
   |true=>
    refine cT R L om ?_;have aR:=w.step J (c9 K).2;refine ba.call _ aR S.next _ _ λy o n t x I v z aA ap aj ak Y=>?_
    refine cy ?_;exact ck.arr (fx:=fvC (.ms 2 8 0 0 0) (.ms 3 8 0 0 0) 4 5 6 0) (gA:=[.box (B0 R (cq p)),.box y0,.row 8 [],.row 8 []]++fvS R s k aa ab j E ((y,o,n,t,x,I,v,z),A',aA)) .eS (hC ((y,o,n,t,x,I,v,z),A',aA) ⟨ap,aj,Hl Q K ak Y⟩)
   |false=>
    exact ck.arr (fx:=fvC (.ms 2 8 0 0 0) (.ms 3 8 0 0 0) 4 5 6 0) (gA:=[.box (B0 R (cq p)),.box y0,.row 8 [],.row 8 []]++fvS R s k aa ab j E ((.int .i64 0,.str [],.str [],.str [],.int .i64 0,.cu,.cu,.cu),B',L)) .eS (hC ((.int .i64 0,.str [],.str [],.str [],.int .i64 0,.cu,.cu,.cu),B',L) ⟨J,S,Hk Q K⟩)
  rintro⟨⟨y,o,n,t,x,I,v,z⟩,ai,ae⟩ ⟨hy,EK,d⟩;have hy:ae.p<j' R.ts:=hy;have EK:ae.ge c:=EK;have d:eF (eA ty ex R [] p) ae (λu=>∃p,u=[]++[p]/\NM p s [k,aa,ab,j,E] ai [y,o,n,t,x,I,v,z]):=d;apply aZ<;>intro H
  ·refine cN ?_;have ac:ae.e≠0:=λT=>by rw[T]at H;cases H
   refine cy ?_;refine a8 0 (Or.inl ⟨.cu,ae,Z,hy,EK,(λh=>Y' Z h),ac,⟨_,.nil⟩,λ_=>?_,Z⟩);show eF (ec (eA ty ex R) R [41] [] p) ae _;rw[vZ];cases g:eA ty ex R [] p with
   |bad ai T=>rw[g]at d;exact d
   |ok j q=>rw[g]at d;exact Y' (by rw[d.1];try rfl) ac
  refine cN ?_;have ao:ae.e=0:=jq H;obtain⟨A,q1,M,av,al⟩:∃A q1,eA ty ex R [] p=.ok ([]++[A]) q1/\ae=cq q1/\NM A s [k,aa,ab,j,E] ai [y,o,n,t,x,I,v,z]:=by
   cases g:eA ty ex R [] p with
   |bad ai T=>rw[g]at d;exact Y' (d.2.2.symm.trans ao) d.1
   |ok u q=>rw[g]at d;obtain⟨aI,A,rfl,aP⟩:=d;exact⟨A,q,rfl,aI,aP⟩
  subst av;rw[M]at vZ;dsimp only at vZ;have az:=Ec M G;have⟨bH,_⟩:=QS w aG aD am ay M;have y3:N2 [A] [Tz s k aa ab j E ai] [[y,o,n,t,x,I,v,z]]:=N2.ins (acc:=[]) N2.nil az al;repeat first
   |refine bZ rfl ?_
   |intro b
   |refine Fl ?_
   |refine b9 rfl ?_
   |refine a7 rfl ?_
  refine ck.freeze 8 [(1,.bp 0 0),(4,.bp 1 0),(5,.ms 8 8 0 1 1),(6,.ms 10 8 0 1 1),(9,.bp 4 0)] (l:=[Tz s k aa ab j E ai]) Z Z ⟨Z,Z,Z,Z,Z,tv⟩ ⟨tv,tv,λ_=>⟨Z,aiv _⟩,(λh=>by cases h),tv,tv⟩ (λbL=>?_);refine ck.freeze 10 [(1,.bp 0 0),(4,.bp 1 0),(5,.d (.ps bL 0 8 1 [Tz s k aa ab j E ai])),(6,.ms 10 8 0 1 1),(9,.bp 4 0)] (l:=[[y,o,n,t,x,I,v,z]]) Z Z ⟨Z,Z,Z,Z,Z,tv⟩ ⟨tv,tv,tv,λ_=>⟨Z,aiv _⟩,tv,tv⟩ (λbK=>?_);obtain⟨a,m⟩:∃a,a=[Tz s k aa ab j E ai]:=⟨_,rfl⟩;obtain⟨e,B⟩:∃e,e=[[y,o,n,t,x,I,v,z]]:=⟨_,rfl⟩;obtain⟨acc,O⟩:∃acc,acc=[A]:=⟨_,rfl⟩;have aO:j' a=1:=by rw[m];try rfl
  refine ck.arr (fx:=fvA (.d (.ps bL 0 8 (j' a) a)) (.d (.ps bK 0 8 (j' e) e)) 2) (gA:=tu R (cq p) (cq q1)) (by rw[m,B];exact .eP 2 [0,1,4]) ?_;rw[<-m,<-B,<-O]at y3;refine gU ?_;have vZ:ec (eA ty ex R) R [41] [] p=if cG (R.tok q1) [41]=A' then PR.ok acc (q1+1)else match cw R [[44]] q1 with
   |.bad ai T=>.bad ai T
   |.ok _ bm=>fh (eA ty ex R) R [41] f0 acc bm:=by rw[O];exact vZ
  clear d H Q r N G ad;refine cL R (cq q1) [44] hy ?_;rw[ga];cases Ap:cG (R.tok q1) [44]with
  |false=>
   have U:=y3.rO.len;have bc:=y3.dfl.len;rw[aiu]at U;refine ck.iter (λi:Nat=>fvD bL bK a e (j' (QQ (((cz dg.n acc).zip e).take i))) i) (λi=>tu R (cq p) (cq q1)++[.row 8 ((QQ (((cz dg.n acc).zip e).take i)).map λbr=>br.map V.d)]) (λi=>j' a-i) (λi=>i<=j' a) ?_ 0 (aiH _);intro i bA;apply aZ<;>intro an
   ·have hi':i<j' a:=eK an;have ag:i<j' (cz dg.n acc):=U▸hi';have⟨bC,bD,bw,bG,bn,bv,bz,bi,bl,bx,bI,bB,bt,bq,bp,aK,g⟩:=y3.get ag;have hkp:=QR ag g;refine bZ Z ?_;refine cp _ (by rw[cx];exact aK) ?_;apply aZ<;>intro ho
    ·have ho:(cz dg.n acc)[i].lM=A':=ho;rw[ho,X' rfl]at hkp;refine bZ Z ?_;refine cp _ (by rw[cx];exact g) ?_;have Ys:=Fe (((cz dg.n acc).zip e).take i);exact IY
    have ho:(cz dg.n acc)[i].lM=B':=ho;exact JC
   have hi':j' a<=i:=dK an;have ar:((cz dg.n acc).zip e).take i=(cz dg.n acc).zip e:=aiI (by rw[List.length_zip];omega);rw[ar];refine cH R w (cq q1) [41] hy ?_;refine Hm (j:=3) (ks:=QQ ((cz dg.n acc).zip e)) Z ?_;have Ys:=Fe ((cz dg.n acc).zip e);exact I5
  |true=>
   refine cT R (cq q1) (by show q1<4294967296;have:q1<j' R.ts:=hy;omega) ?_;have xH:cG (R.tok q1) [41]=B':=by
    exact Ke
   have au:q1+1<j' R.ts:=w.step hy Ap;rw[W' (by rw[xH];decide),cw,X' Ap,cw]at vZ;dsimp only at vZ;refine ck.iter (λj:Nat×n_ dg×n_ cP×n_ cP×Nat×Nat=>aic (.d (.ps j.2.2.2.2.1 0 8 (j' j.2.2.1) j.2.2.1)) (.d (.ps j.2.2.2.2.2 0 8 (j' j.2.2.2.1) j.2.2.2.1))) (λj=>gvS R (cq j.1)) (λj=>j' R.ts-j.1)
    (λj=>p<j.1/\j.1<j' R.ts/\N2 j.2.1 j.2.2.1 j.2.2.2.1/\0<j' j.2.2.1/\j' j.2.2.1<=j.1/\∃E,j' R.ts-j.1<=E/\ec (eA ty ex R) R [41] [] p=fh (eA ty ex R) R [41] E j.2.1 j.1) ?_ (q1+1,acc,a,e,bL,bK) ⟨by show p<q1+1;omega,au,y3,by show 0<j' a;omega,by show (j' a)<=q1+1;omega,f0,by show (j' R.ts)-(q1+1)<=f0;omega,vZ⟩ (.eD 2)
   clear vZ y3 m B O aO a e acc al;rintro⟨q,acc,a,e,bL,bK⟩ ⟨bh,be,aX,aY,aW,E,aU,bg⟩;have bM:p<q:=bh;have aQ:q<j' R.ts:=be;have aB:N2 acc a e:=aX;have hx0:0<j' a:=aY;have U:j' a<=q:=aW;have bJ:j' R.ts-q<=E:=aU;have vZ:ec (eA ty ex R) R [41] [] p=fh (eA ty ex R) R [41] E acc q:=bg;clear bh be aX aY aW aU bg;obtain⟨aE,aV⟩:∃k,E=k+1:=⟨E-1,om⟩;rw[aV,fh]at vZ;have⟨bP,bN⟩:=aB.len;have bO:j' ((cz dg.n acc).map dg.rO)=j' acc:=by rw[aiu,fg]
   refine dv R w (cq q) 1 aQ ?_;refine vq _ a ((cz dg.n acc).map dg.n) (by rw[aiW];try rfl) aB.rO om bL _ (λaL=>?_);refine iG ((cz dg.n acc).map dg.n) _ aL _ (by rw[aiu,fg];omega) ?_;rw[aB.mem];obtain⟨b,aH⟩:∃b,b=decide ((cq q).dq R 1∈acc.map dg.n):=⟨_,rfl⟩;rw[<-aH];have bb:=fB w (x:=cq q) (k:=1) dc aQ;have F:(if b then((cq q).word R 1).fail (R.tok q).off 5 else(cq q).word R 1).p<j' R.ts:=by
    all_goals grind [nF]
   have G:=pD (R:=R) aH;have abI:(cq q).ge c:=.xC om;have l:(if b then((cq q).word R 1).fail (R.tok q).off 5 else(cq q).word R 1).ge c:=by
    exact Ct
   obtain⟨af,W⟩:∃af,af=(if b then((cq q).word R 1).fail (R.tok q).off 5 else(cq q).word R 1):=⟨_,rfl⟩;obtain⟨s,aN⟩:∃s,s=(cq q).dq R 1:=⟨_,rfl⟩;obtain⟨X,aw⟩:∃X,X=p9 ((cz dg.n acc).map dg.n) s:=⟨_,rfl⟩;rw[<-W]at F G l;rw[<-aN]at G⊢;rw[<-aw];apply de (ι:=Unit) (T:=λ_=>fvB (.d (.ps bL 0 8 (j' a) a)) (.d (.ps bK 0 8 (j' e) e)) 2 s X) (S:=λ_=>tu R (cq q) af) (I:=λ_=>True)
   ·intro hC;apply aZ<;>intro H
    ·refine cN ?_;refine kD R _ (R.tok q).off 5 ?_;refine ck.arr (fx:=fvB (.d (.ps bL 0 8 (j' a) a)) (.d (.ps bK 0 8 (j' e) e)) 2 s X) (gA:=tu R (cq q) af) (.same ⟨Z,Z,Z,Z,Z,Z,Z,tv⟩ ?_) (hC () trivial);rw[W,X' H];try rfl
    refine cN ?_;refine ck.arr (fx:=fvB (.d (.ps bL 0 8 (j' a) a)) (.d (.ps bK 0 8 (j' e) e)) 2 s X) (gA:=tu R (cq q) af) (.same ⟨Z,Z,Z,Z,Z,Z,Z,tv⟩ ?_) (hC () trivial);rw[W,H];try rfl
   intro _ _;have ad:=cW w (s:=[58]) F;refine cH R w _ [58] F ?_;refine aT _ ad l.expect _ _ (λk aa ab j E L J S N r=>?_);have Q:=QT G l N r;refine cy ?_;refine cL R L [61] J ?_;apply de (ι:=(D×D×D×D×D×D×D×D)×Bool×RS) (T:=λ_=>fvC (.d (.ps bL 0 8 (j' a) a)) (.d (.ps bK 0 8 (j' e) e)) 2 3 4 X) (S:=λP=>[.box (B0 R (cq q)),.box y0]++fvS R s k aa ab j E P) (I:=λP=>P.2.2.p<j' R.ts/\P.2.2.ge c/\eF (eA ty ex R acc q) P.2.2 (λu=>∃p,u=acc++[p]/\NM p s [k,aa,ab,j,E] P.2.1 [P.1.1,P.1.2.1,P.1.2.2.1,P.1.2.2.2.1,P.1.2.2.2.2.1,P.1.2.2.2.2.2.1,P.1.2.2.2.2.2.2.1,P.1.2.2.2.2.2.2.2]))
   ·intro hC;cases K:L.is R [61]with
    |true=>
     refine cT R L om ?_;have aR:=w.step J (c9 K).2;refine ba.call _ aR S.next _ _ λy o n t x I v z aA ap aj ak Y=>?_
     refine cy ?_;exact ck.arr (fx:=fvC (.d (.ps bL 0 8 (j' a) a)) (.d (.ps bK 0 8 (j' e) e)) 2 3 4 X) (gA:=[.box (B0 R (cq q)),.box y0]++fvS R s k aa ab j E ((y,o,n,t,x,I,v,z),A',aA)) .eS (hC ((y,o,n,t,x,I,v,z),A',aA) ⟨ap,aj,Hl Q K ak Y⟩)
    |false=>
     exact ck.arr (fx:=fvC (.d (.ps bL 0 8 (j' a) a)) (.d (.ps bK 0 8 (j' e) e)) 2 3 4 X) (gA:=[.box (B0 R (cq q)),.box y0]++fvS R s k aa ab j E ((.int .i64 0,.str [],.str [],.str [],.int .i64 0,.cu,.cu,.cu),B',L)) .eS (hC ((.int .i64 0,.str [],.str [],.str [],.int .i64 0,.cu,.cu,.cu),B',L) ⟨J,S,Hk Q K⟩)
   rintro⟨⟨y,o,n,t,x,I,v,z⟩,ai,ae⟩ ⟨hy,EK,d⟩;have hy:ae.p<j' R.ts:=hy;have EK:ae.ge c:=EK;have d:eF (eA ty ex R acc q) ae (λu=>∃p,u=acc++[p]/\NM p s [k,aa,ab,j,E] ai [y,o,n,t,x,I,v,z]):=d;apply aZ<;>intro H
   ·refine cN ?_;have ac:ae.e≠0:=λT=>by rw[T]at H;cases H
    refine cy ?_;refine a8 0 (Or.inl ⟨.cu,ae,Z,hy,EK,(λh=>Y' Z h),ac,⟨_,.nil⟩,λ_=>?_,Z⟩);show eF (ec (eA ty ex R) R [41] [] p) ae _;rw[vZ];cases g:eA ty ex R acc q with
    |bad ai T=>rw[g]at d;exact d
    |ok j q=>rw[g]at d;exact Y' (by rw[d.1];try rfl) ac
   refine cN ?_;have ao:ae.e=0:=jq H;obtain⟨A,q1,M,av,al⟩:∃A q1,eA ty ex R acc q=.ok (acc++[A]) q1/\ae=cq q1/\NM A s [k,aa,ab,j,E] ai [y,o,n,t,x,I,v,z]:=by
    cases g:eA ty ex R acc q with
    |bad ai T=>rw[g]at d;exact Y' (d.2.2.symm.trans ao) d.1
    |ok u q=>rw[g]at d;obtain⟨aI,A,rfl,aP⟩:=d;exact⟨A,q,rfl,aI,aP⟩
   subst av;rw[M]at vZ;dsimp only at vZ;have az:=Ec M G;have aS:=NH ((cz dg.n acc).map dg.n) s;rw[aiu,fg,<-aw]at aS;have y3:=aB.ins az al;rw[<-aw]at y3;have EI:X<=j' a:=om;have hkt:X<=j' e:=om;have hk0:0<j' e:=om;have aJ:X=j' a->X=j' e:=λh=>om;clear d H Q r N G ad aH W F bb l;obtain⟨jQ,m⟩:∃jQ,jQ=a.take X++Tz s k aa ab j E ai::a.drop X:=⟨_,rfl⟩;obtain⟨jX,B⟩:∃jX,jX=e.take X++[y,o,n,t,x,I,v,z]::e.drop X:=⟨_,rfl⟩;rw[<-m,<-B]at y3;have bs:j' jQ=j' a+1:=by rw[m];simp only[aiz,aiE,aiC,aiD];omega
   have bu:j' jX=j' e+1:=by rw[B];simp only[aiz,aiE,aiC,aiD];omega
   obtain⟨f,O⟩:∃f,f=acc++[A]:=⟨_,rfl⟩;rw[<-O]at y3 vZ;have⟨bQ,bS⟩:=QS w aG aD (p:=q) om aQ M;apply de (ι:=Nat×Nat) (T:=λb=>fvA (.d (.ps b.1 0 8 (j' jQ) jQ)) (.d (.ps b.2 0 8 (j' jX) jX)) 2) (S:=λ_=>tu R (cq q) (cq q1)) (I:=λ_=>True)
   ·intro hC;by_cases aF:X=0
    ·repeat first
      |refine bZ rfl ?_
      |refine Fl ?_
      |intro b
      |refine kf ?_
     refine ck.freeze 7 [(1,.bp 0 0),(4,.bp 1 0),(5,.ms 7 8 0 (j' jQ) (j' jQ)),(6,.ms 10 8 0 (j' jX) (j' jX)),(9,.bp 2 0)] (es:=8) (els:=jQ.map λT=>T.map V.d) (l:=jQ) (d_ (λu=>q' (cX.row 8 u)) (by rw[m];exact(yF _ _ _ _ aF))) (dF _) ⟨Z,Z,jW Ag,jW Ag,Z,tv⟩ ⟨tv,tv,λ_=>⟨Z,aiB (aiA _)⟩,(λh=>by cases h),tv,tv⟩ (λbL=>?_);refine ck.freeze 10 [(1,.bp 0 0),(4,.bp 1 0),(5,.d (.ps bL 0 8 (j' jQ) jQ)),(6,.ms 10 8 0 (j' jX) (j' jX)),(9,.bp 2 0)] (es:=8) (els:=jX.map λT=>T.map V.d) (l:=jX) (d_ (λu=>q' (cX.row 8 u)) (by rw[B];exact(yF _ _ _ _ aF))) (dF _) ⟨Z,Z,oN Z,Z,Z,tv⟩ ⟨tv,tv,tv,λ_=>⟨Z,aiB (aiA _)⟩,tv,tv⟩ (λbK=>?_);exact B9
    by_cases aC:X=j' a
    ·repeat first
      |refine bZ rfl ?_
      |refine Fl ?_
      |intro b
      |refine kf ?_
     refine ck.freeze 7 [(1,.bp 0 0),(4,.bp 1 0),(5,.ms 7 8 0 (j' jQ) (j' jQ)),(6,.ms 10 8 0 (j' jX) (j' jX)),(9,.bp 2 0)] (es:=8) (els:=jQ.map λT=>T.map V.d) (l:=jQ) (d_ (λu=>q' (cX.row 8 u)) (by rw[m];exact(yG _ _ _ _ aC))) (dF _) ⟨Z,Z,jW Ag,jW Ag,Z,tv⟩ ⟨tv,tv,λ_=>⟨Z,aiB (aiA _)⟩,(λh=>by cases h),tv,tv⟩ (λbL=>?_);refine ck.freeze 10 [(1,.bp 0 0),(4,.bp 1 0),(5,.d (.ps bL 0 8 (j' jQ) jQ)),(6,.ms 10 8 0 (j' jX) (j' jX)),(9,.bp 2 0)] (es:=8) (els:=jX.map λT=>T.map V.d) (l:=jX) (d_ (λu=>q' (cX.row 8 u)) (by rw[B];exact(yG _ _ _ _ (aJ aC)))) (dF _) ⟨Z,Z,oN Z,Z,Z,tv⟩ ⟨tv,tv,tv,λ_=>⟨Z,aiB (aiA _)⟩,tv,tv⟩ (λbK=>?_);exact B9
    repeat first
     |refine bZ rfl ?_
     |refine Fl ?_
     |intro b
     |refine kf ?_
    refine ck.freeze 8 [(1,.bp 0 0),(4,.bp 1 0),(5,.ms 8 8 0 (j' jQ) (j' jQ)),(6,.ms 12 8 0 (j' jX) (j' jX)),(9,.bp 2 0)] (es:=8) (els:=jQ.map λT=>T.map V.d) (l:=jQ) (d_ (λu=>q' (cX.row 8 u)) (by rw[m];exact(yE _ _ _ _))) (dF _) ⟨Z,Z,jW Ag,jW Ag,Z,tv⟩ ⟨tv,tv,λ_=>⟨Z,aiB (aiA _)⟩,(λh=>by cases h),tv,tv⟩ (λbL=>?_);refine ck.freeze 12 [(1,.bp 0 0),(4,.bp 1 0),(5,.d (.ps bL 0 8 (j' jQ) jQ)),(6,.ms 12 8 0 (j' jX) (j' jX)),(9,.bp 2 0)] (es:=8) (els:=jX.map λT=>T.map V.d) (l:=jX) (d_ (λu=>q' (cX.row 8 u)) (by rw[B];exact(yE _ _ _ _))) (dF _) ⟨Z,Z,oN Z,Z,Z,tv⟩ ⟨tv,tv,tv,λ_=>⟨Z,aiB (aiA _)⟩,tv,tv⟩ (λbK=>?_);exact B9
   rintro⟨bL,bK⟩ _;refine cL R (cq q1) [44] hy ?_;rw[ga];cases Ap:cG (R.tok q1) [44]with
   |false=>
    have U:=y3.rO.len;have bc:=y3.dfl.len;rw[aiu]at U;refine ck.iter (λi:Nat=>fvD bL bK jQ jX (j' (QQ (((cz dg.n f).zip jX).take i))) i) (λi=>tu R (cq q) (cq q1)++[.row 8 ((QQ (((cz dg.n f).zip jX).take i)).map λbr=>br.map V.d)]) (λi=>j' jQ-i) (λi=>i<=j' jQ) ?_ 0 (aiH _);intro i bA;apply aZ<;>intro an
    ·have hi':i<j' jQ:=eK an;have ag:i<j' (cz dg.n f):=U▸hi';have⟨bC,bD,bw,bG,bn,bv,bz,bi,bl,bx,bI,bB,bt,bq,bp,aK,g⟩:=y3.get ag;have hkp:=QR ag g;refine bZ Z ?_;refine cp _ (by rw[cx];exact aK) ?_;apply aZ<;>intro ho
     ·have ho:(cz dg.n f)[i].lM=A':=ho;rw[ho,X' rfl]at hkp;refine bZ Z ?_;refine cp _ (by rw[cx];exact g) ?_;have Ys:=Fe (((cz dg.n f).zip jX).take i);exact IY
     have ho:(cz dg.n f)[i].lM=B':=ho;exact JC
    have hi':j' jQ<=i:=dK an;have ar:((cz dg.n f).zip jX).take i=(cz dg.n f).zip jX:=aiI (by rw[List.length_zip];omega);rw[ar];refine cH R w (cq q1) [41] hy ?_;refine Hm (j:=3) (ks:=QQ ((cz dg.n f).zip jX)) Z ?_;have Ys:=Fe ((cz dg.n f).zip jX);exact I5
   |true=>
    refine cT R (cq q1) (by show q1<4294967296;have:q1<j' R.ts:=hy;omega) ?_;have xH:cG (R.tok q1) [41]=B':=by
     exact Ke
    have au:q1+1<j' R.ts:=w.step hy Ap;rw[W' (by rw[xH];decide),cw,X' Ap,cw]at vZ;dsimp only at vZ;exact⟨(q1+1,f,jQ,jX,bL,bK),⟨by show p<q1+1;omega,au,y3,by show 0<j' jQ;omega,by show (j' jQ)<=q1+1;omega,aE,by show (j' R.ts)-(q1+1)<=aE;omega,vZ⟩,by show (j' R.ts)-(q1+1)<j' R.ts-q;omega,.eD 2,Z,Z⟩
def NN(n:E.Wf)(j:XI dh r E c)(fn:Nat->PR (n_ dg))(d:RS)(b:d.p<j' E.ts)(a:d.e≠0):
  b7 C cm kx [d.v E] [] (FvP fn E c d):=by
 have l:=n.len;have h:d.ge c:=.err a;refine cB aef (λ_=>Z) ?_;refine cL E d [41] b ?_;rw[ea a];refine ck.loop ?_;refine dv E n d 1 b ?_;refine qX 2 Z (λi=>?_);refine iG [] _ i 0 dc ?_;refine gU ?_;rw[nE a];refine cH E n d [58] b ?_;rw[gB a];refine j d b h _ _ (λk x w t v p q o e m=>?_);have g:=e a;subst g;refine cy ?_;refine cL E p [61] b ?_;rw[ea a];refine gU ?_;refine aZ (λf=>?_) (λf=>Y' (jq f) a);refine cN ?_;refine cy ?_;exact a8 0 (Or.inl ⟨.cu,p,Z,b,h,(λ_=>Z),a,⟨_,.nil⟩,λs=>Y' s a,Z⟩)
def TA(m:E.Wf)(f:XI dh r E c)(l:mz dR one A E c)(g:∀j n k,c<=j->j<j' E.ts->r j=.ok n k->j<k/\k<j' E.ts)(e:jP E c A)(a:RS)(d:a.p<j' E.ts)(h:a.ge c):
  b7 C cm kx [a.v E] [] (FvP (ec (eA r A E) E [41] []) E c a):=by
 by_cases b:a.e=0
 ·have i:=eH h b;have:=QU m f l g e a.p (h b).1 d;rwa[<-i]at this
 exact NN m f _ a d b
def NO{g:n_ V}{fn:Nat->PR (n_ dg)}(t:b7 C cm N g [] λh f=>f=[]/\da h=A'/\GvP fn E c G h)(o:hP 0 g=A') 
  (j:∀(b a:D) (d:RS),d.p<j' E.ts->d.ge c->G.stay d->(∃e,e9 e b)->(∃e,gn e a)->aee a<=j' E.ts->(G.e=0->eF (fn G.p) d (λe=>e9 ((cz dg.n e).map dg.rO) b/\gn ((cz dg.n e).flatMap dg.val) a))->u (.ret (.dP [.d b,.d a,d.v E])) H):b7 C cm N g H u:=by
 refine b7.closed t o (λh p=>?_);obtain⟨b,a,d,l,i,q,k,n,s,m,rfl⟩:=p;exact j b a d l i q k n s m
def b7.fresh{p:n_ V}{fn:Nat->PR (n_ dg)}(o:b7 C cm N p [] (FvP fn E c G))(n:hP 0 p=A') 
  (q:∀(b:D) (d:RS),d.p<j' E.ts->d.ge c->G.stay d->d.e≠0->(∃e,e9 e b)->(G.e=0->eF (fn G.p) d (λ_=>False))->u (.ret (.dP [.d b,.d .cu,d.v E])) H)
  (v:∀(b:D) (a:n_ cP) (d:RS),j' a<=j' E.ts->d.p<j' E.ts->d.ge c->G.stay d->(∃e,e9 e b)->(∃e,ir e a)->(G.e=0->eF (fn G.p) d (λe=>e9 ((cz dg.n e).map dg.rO) b/\ir ((cz dg.n e).flatMap dg.val) a))->u (.ret (.dP [.d b,.ms (j' H) 8 0 (j' a) (j' a),d.v E])) (H++[.row 8 (a.map λj=>j.map V.d)])):b7 C cm N p H u:=by
 refine o.frame [] Z List.nodup_nil (λz I o=>by simp at o) n (gu _ p n).symm (λy t o _=>?_);have x:∀(k:Nat->Nat) (d:RS),iN k (d.v E)=d.v E:=λk d=>lu k _ rfl;rcases o with⟨b,d,rfl,h,f,l,g,i,m,rfl⟩|⟨b,a,d,rfl,s,h,f,l,g,i,m,rfl⟩
 ·have w:merge H [] (([]:VS).map (eb (kU [] (j' H))))=H:=by simp[merge]
  rw[w];exact q b d h f l g i m
 have w:merge H [] (([.row 8 (a.map λj=>j.map V.d)]:VS).map (eb (kU [] (j' H))))=H++[.row 8 (a.map λj=>j.map V.d)]:=by
  show H++[eb (kU [] (j' H)) (.row 8 (a.map λj=>j.map V.d))]=_;rw[k9]
 rw[w];exact v b a d s h f l g i m
theorem abk{a:n_ Ty}(d:fS r E c=.ok a J)(b:cG (E.tok c) [91]=A'):a≠[]:=by
 grind [fS,D2]
def Dt(b:Rd)(f:Nat):PR (Nat×cC×cC):=(dp b f).bind λd a=>if cG (b.tok a) [58,58]then(dp b (a+1)).map λe=>(4,d,e)else .ok (3,[],d) a
def Ab(a:Nat->PR Ty)(b:Rd)(f:Nat):PR Ex:=(dp b f).bind λe d=>iA a b e d
theorem abl(a:Nat->PR Ty)(d:Rd)(j:Nat):Ab a d j=(Dt d j).bind λi b=>(fS a d b).map λe=>.mk (if e=[]then i.1 else 4) i.2.1 i.2.2 [] 0 e [] []:=by
 have l:∀h g f b,(if cG (d.tok b) [91]=A' then(fS a d b).map λe=>Ex.mk 4 g f [] 0 e [] []else .ok (.mk h g f [] 0 [] [] []) b)=(fS a d b).map λe=>Ex.mk (if e=[]then h else 4) g f [] 0 e [] []:=by
  intro h g f b;cases k:cG (d.tok b) [91]with
  |true=>
   rw[X' rfl];cases n:fS a d b with
   |bad o m=>rfl
   |ok e p=>
    grind [PR.map,abk]
  |false=>
   have m:fS a d b=.ok [] b:=by rw[fS,W' (by rw[k];decide)]
   grind [PR.map]
 rw[Ab,Dt];cases dp d j with
 |bad o m=>rfl
 |ok s b=>
  all_goals grind [PR.bind,iA]
def exZ:n_ V:=[.d (.int .i64 0),.d (.str []),.d (.str []),.d (.str []),.d (.int .i64 0),.d .cu,.d .cu,.d .cu]
def afG(b:Rd)(d:RS)(a:Nat×cC×cC×RS):VS:=[.box (B0 b d),.box exZ,.box y0,.box (B0 b a.2.2.2),.box [cl a.1,cv a.2.1,cv a.2.2.1,.d (.str []),.d (.int .i64 0),.d .cu,.d .cu,.d .cu]]
def afH:Tm:=[(2,.bp 1 0),(3,.bp 2 0),(6,.bp 3 0),(7,.bp 4 0)]
def ag7:Nat->Bool:=λa=>aiF a 1000006
def abm(F:E.Wf)(T:AG r E c):mz w6 one (Ab r E) E c:=by
 have S:=F.len;refine mz.of (λa=>Z) (λa K x=>?_);refine cB ag7 (λ_=>Z) ?_;refine dv E F a 1 K ?_;have j:=fB F (k:=1) dc K;refine cL E _ [58,58] j ?_;apply de (ι:=Nat×cC×cC×RS) (T:=λ_=>afH) (S:=λw=>afG E a w) (I:=λw=>w.2.2.2.p<j' E.ts/\w.2.2.2.ge c/\a.stay w.2.2.2/\(a.e=0->eF (Dt E a.p) w.2.2.2 (λs=>s=(w.1,w.2.1,w.2.2.1))))
 ·intro G;cases A:(a.word E 1).is E [58,58]with
  |true=>
   have⟨D,b⟩:=c9 A;refine cT E _ om ?_;have z:(a.word E 1).next.p<j' E.ts:=F.step j b
   refine dv E F _ 1 z ?_;refine ck.arr (fx:=afH) (gA:=afG E a (4,a.dq E 1,(a.word E 1).next.dq E 1,(a.word E 1).next.word E 1)) .eS (G (4,a.dq E 1,(a.word E 1).next.dq E 1,(a.word E 1).next.word E 1) ⟨fB F (k:=1) dc z,x.word.next.word,λy=>?_,λv=>?_⟩)
   ·rw[nE y]at D;exact Y' D y
   have l:=eH x v;rw[Dt];have p:=eF.name E a.p;rw[<-l]at p;refine eF.bind p (λae=>Y' D ae) (λs N m u=>?_);rw[m]at b⊢;have b:cG (E.tok N) [58,58]=A':=b;rw[X' b];exact eF.map (eF.name E (N+1)) λai U=>by rw[<-u,<-U];try rfl
  |false=>
   refine ck.arr (fx:=afH) (gA:=afG E a (3,[],a.dq E 1,a.word E 1)) .eS (G (3,[],a.dq E 1,a.word E 1) ⟨j,x.word,.word,λv=>?_⟩);have l:=eH x v;rw[Dt];have p:=eF.name E a.p;rw[<-l]at p;refine eF.bind p (λ_=>Z) (λs N m u=>?_);rw[m]at A⊢;have b:cG (E.tok N) [58,58]=B':=cJ A rfl;rw[W' (by rw[b];decide),<-u];exact .ok Z
 rintro⟨k,Y,X,L⟩ ⟨R,o,e,g⟩;have R:L.p<j' E.ts:=R;have o:L.ge c:=o;have e:a.stay L:=e;have g:a.e=0->eF (Dt E a.p) L (λs=>s=(k,Y,X)):=g;refine T L R o _ _ (λW O P n d M i _=>?_);have h:∀I,(∀B,ft B W->(if B=[]then k else 4)=I)->(a.e=0->eF (Ab r E a.p) O (λaf=>iz af [.int .i64 (ais I),.str Y,.str X,.str [],.int .i64 0,W,.cu,.cu])):=λI J v=>by
  rw[abl];refine eF.bind (g v) d (λw N m Q=>?_);subst Q;rw[m]at i;exact eF.map (i Z) λB f=>by rw[<-J B f];exact .mk f .nil .nil
 have⟨ad,H⟩:=M;rcases H.inv with⟨rfl,rfl⟩|⟨ak,aj,w,q,rfl,ac⟩
 ·refine cy ?_;exact a8 0 ⟨Z,Z,_,_,_,_,_,_,_,_,O,P,n,e.trans d,h k (λB f=>by cases f;rfl),Z⟩
 apply aZ<;>intro b
 ·refine cy ?_;refine a8 0 ⟨Z,Z,_,_,_,_,_,_,_,_,O,P,n,e.trans d,h 4 (λB f=>?_),Z⟩;cases f with
  |ps t _=>
   have C:=t.len;have V:ais 0<ais (j' q):=f_ b;rw[W' (λag=>by subst ag;simp at C;subst C;simp at V)]
 refine cy ?_;refine a8 0 ⟨Z,Z,_,_,_,_,_,_,_,_,O,P,n,e.trans d,h k (λB f=>?_),Z⟩;cases f with
 |ps t _=>
  have C:=t.len;have V:¬(ais 0<ais (j' q)):=e_ b;have aa:j' q=0:=by simp only[ait]at V;omega
  rw[X' (aiQ om)]
theorem r1{h a b d g e f:D}{els:n_ cP}(k:nth H c=q' (.row 8 (els.map λq=>q.map V.d)))(l:J=j' els)(n:∀i,T (.ret (.dP [.agg [.d h,.d a,.d b,.d d,.d g,.d e,.d f,.d (.ps i 0 8 J els)],G.v E]))):
  cV 0 (.ret (.dP [.agg [.d h,.d a,.d b,.d d,.d g,.d e,.d f,.ms c 8 0 J J],G.v E])) H λo j=>j=[]/\da o=A'/\T o:=by
 refine cV.freeze c (es:=8) (l:=els) k (dF els) (by simp[C1,r4,sv,RS.v,cl,l]) (λi=>?_);have p:qL c i els (.ret (.dP [.agg [.d h,.d a,.d b,.d d,.d g,.d e,.d f,.ms c 8 0 J J],G.v E]))=.ret (.dP [.agg [.d h,.d a,.d b,.d d,.d g,.d e,.d f,.d (.ps i 0 8 J els)],G.v E]):=by
  show dt.ret (.dP [.agg [.d h,.d a,.d b,.d d,.d g,.d e,.d f,jN c i els (.ms c 8 0 J J)],jN c i els (G.v E)])=_;have m:jN c i els (G.v E)=G.v E:=by simp[RS.v,jN,A5,cl]
  rw[m,jN,gr]
  grind
 rw[p];exact cV.drop 0 (aiV (aiH _)) (uu 0 _) Z (cV.now Z ⟨Z,Z,n i⟩)
def tj(b:Nat->PR Ty)(a:Nat->PR Ex)(d:Rd)(g:Nat):PR Ex:=(b g).bind λf e=>(cw d [[124]] e).bind λ_ q1=>(ec (kh a) d [93] [] q1).map λh=>.mk 14 [] [] [] 0 [f] [] h
def ag8:Nat->Bool:=λa=>aiF a 16||aiF a 36
def aid:Tm:=[(1,.bp 0 0),(2,.bp 1 0),(3,.bp 2 0),(5,.bp 4 0)]
def aie(k:Rd)(j:RS)(f g d h b:D)(bT:Nat)(a:n_ cP):VS:=match a with
 |[]=>[.box (B0 k j),.box exZ,.box y0,.box [.d f,.d g,.d d,.d h,.d b],.box [.d (.int .i64 (ais 14)),.d (.str []),.d (.str []),.d (.str []),.d (.int .i64 (ais 0)),.d (.ps bT 0 5 1 [[f,g,d,h,b]]),.d .cu,.d .cu]]
 |e::i=>[.box (B0 k j),.box exZ,.box y0,.box [.d f,.d g,.d d,.d h,.d b],.box [.d (.int .i64 (ais 14)),.d (.str []),.d (.str []),.d (.str []),.d (.int .i64 (ais 0)),.d (.ps bT 0 5 1 [[f,g,d,h,b]]),.d .cu,.ms 5 8 0 (j' i+1) (j' i+1)],.row 8 ((e::i).map λl=>l.map V.d)]
def adv(b:cP)(d:n_ cP)(a:cP):aix (j' d+1) (aiw 0 (aiG (λa=>aiG V.d a) (b::d)))++[a.map V.d]=(b::(d++[a])).map λa=>a.map V.d:=by
 exact Cw
def adw{R:Rd}(w:R.Wf){ex:Nat->PR Ex}(ht:XI dh r R c)(ac:mz dR one ex R c)(H:jP R c ex):mz yV one (tj r ex R) R c:=by
 have af:=w.len;refine mz.of (λx=>Z) (λx ag aj=>?_);refine cB ag8 (λ_=>Z) ?_;refine ht x ag aj _ _ (λk aa X a N y hy EK Fj K=>?_);refine cy ?_;refine cH R w y [124] hy ?_;have C:=cW w (s:=[124]) hy;intro bT;refine cy ?_;refine cL R _ [93] C ?_;have b:(y.expect R [124]).ge c:=EK.expect;have Fj:x.stay (y.expect R [124]):=Fj.trans .expect;have NX:x.e=0->eF ((r x.p).bind λt q=>(cw R [[124]] q).map λ_=>t) (y.expect R [124]) (λt=>fF t [k,aa,X,a,N]):=λh0=>by
  refine eF.bind (K h0) .expect (λt q B hd=>?_);rw[B];exact eF.map (kL R q [124]) λ_ _=>hd
 have E:tj r ex R x.p=((r x.p).bind λt q=>(cw R [[124]] q).map λ_=>t).bind λt q1=>(ec (kh ex) R [93] [] q1).map λad=>.mk 14 [] [] [] 0 [t] [] ad:=by
  rw[tj];cases r x.p with
  |bad o e=>rfl
  |ok t q=>
   simp only[PR.bind];cases cw R [[124]] q<;>rfl
 generalize y.expect R [124]=z at*;cases L:z.is R [93]with
 |true=>
  have⟨sW,h1⟩:=c9 L;refine cy ?_;refine cT R z om ?_;refine cy ?_;refine a8 0 ⟨Z,Z,_,_,_,_,_,_,_,_,z.next,w.step C h1,b.next,λh=>?_,λh0=>?_,Z⟩
  ·rw[Fj h]at sW;exact Y' sW h
  rw[E];refine eF.bind (NX h0) (λh=>Y' sW h) (λt q B hd=>?_);rw[B]at h1⊢;have h1:cG (R.tok q) [93]=A':=h1;rw[ec,X' h1];exact .ok (.mk (.ps (.cons hd .nil) sm) .nil .nil)
 |false=>
  refine ck.iter (λ_:RS×n_ Ex×n_ cP=>aid) (λv=>aie R v.1 k aa X a N bT v.2.2) (λv=>j' R.ts-v.1.p)
   (λv=>v.1.p<j' R.ts/\v.1.ge c/\x.stay v.1/\ir v.2.1 v.2.2/\j' v.2.2<=v.1.p/\(x.e=0->v.1.e≠0->eF (tj r ex R x.p) v.1 (λ_=>False))/\
    (x.e=0->v.1.e=0->∃t F,j' R.ts-v.1.p<=F/\fF t [k,aa,X,a,N]/\tj r ex R x.p=(fh (kh ex) R [93] F v.2.1 v.1.p).map λad=>.mk 14 [] [] [] 0 [t] [] ad)) ?_ (z,[],[]) ⟨C,b,Fj,.nil,aiH _,λh0 EJ=>?_,λh0 sW=>?_⟩
  ·rintro⟨z,V,I⟩ ⟨Y,O,ae,W,ab,M,T⟩;have C:z.p<j' R.ts:=Y;have b:z.ge c:=O;have Fj:x.stay z:=ae;have hK:ir V I:=W;have Q:j' I<=z.p:=ab;have ahn:x.e=0->z.e≠0->eF (tj r ex R x.p) z (λ_=>False):=M;have Ym:x.e=0->z.e=0->∃t F,j' R.ts-z.p<=F/\fF t [k,aa,X,a,N]/\tj r ex R x.p=(fh (kh ex) R [93] F V z.p).map λad=>.mk 14 [] [] [] 0 [t] [] ad:=T;clear Y O ae W ab M T;rcases I with _|⟨u,J⟩
   ·refine ac.call z C b _ _ (λp g i j n l m f y hy EK Yl Yn=>?_);apply aZ<;>intro h1
    ·exact IR
    refine cN ?_;have hye:y.e=0:=jq h1;have sW:z.e=0:=by
     by_cases h:z.e=0
     ·exact h
     rw[Yl h]at hye;exact Y' hye h
    have h0:x.e=0:=by
     exact xS
    have⟨t,fu,hf,htD,NX⟩:=Ym h0 sW;obtain⟨fu,rfl⟩:∃k,fu=k+1:=⟨fu-1,om⟩;obtain⟨d,q,D,A,hd⟩:∃d q,ex z.p=.ok d q/\y=cq q/\iz d [p,g,i,j,n,l,m,f]:=by
     exact JJ
    subst A;have⟨P,B⟩:=H z.p d q (b sW).1 C D;rw[fh,kh,D]at NX;simp only[PR.map]at NX;repeat first
     |refine bZ rfl ?_
     |intro ah
     |refine Fl ?_
     |refine b9 rfl ?_
     |refine a7 rfl ?_
    refine cL R (cq q) [44] hy ?_;rw[ga];cases Ap:cG (R.tok q) [44]with
    |false=>
     refine cy ?_;refine cH R w (cq q) [93] hy ?_;refine cy ?_;refine r1 (els:=[[p,g,i,j,n,l,m,f]]) Z Z (λah=>?_);exact I9
    |true=>
     refine cT R (cq q) (by show q<4294967296;omega) ?_;have xH:cG (R.tok q) [93]=B':=by
      exact Kf
     have G:q+1<j' R.ts:=w.step hy Ap;rw[W' (by rw[xH];decide),cw,X' Ap,cw]at NX;dsimp only at NX;exact⟨(cq (q+1),V++[d],[[p,g,i,j,n,l,m,f]]),⟨G,.xC (by have:=(b sW).1;omega),(λh=>Y' h0 h),hK.snoc hd,by show 1<=q+1;omega,(λ_ h=>Y' Z h),λ_ _=>⟨t,fu,by show (j' R.ts)-(q+1)<=fu;omega,htD,NX⟩⟩,by show (j' R.ts)-(q+1)<j' R.ts-z.p;omega,.pick 5 [0,1,2,3,4,7] ⟨Z,Z,Z,Z,tv⟩ Z Z Z Z Z dc ⟨Z,Z,Z,Z,Z,Z,Z,Z,Z,Z,vY Z,fU _ 8 _,tv⟩,Z,Z⟩
   have ak:j' J+1<=z.p:=Q;refine ac.call z C b _ _ (λp g i j n l m f y hy EK Yl Yn=>?_);apply aZ<;>intro h1
   ·exact IR
   refine cN ?_;have hye:y.e=0:=jq h1;have sW:z.e=0:=by
    by_cases h:z.e=0
    ·exact h
    rw[Yl h]at hye;exact Y' hye h
   have h0:x.e=0:=by
    exact xS
   have⟨t,fu,hf,htD,NX⟩:=Ym h0 sW;obtain⟨fu,rfl⟩:∃k,fu=k+1:=⟨fu-1,om⟩;obtain⟨d,q,D,A,hd⟩:∃d q,ex z.p=.ok d q/\y=cq q/\iz d [p,g,i,j,n,l,m,f]:=by
    exact JJ
   subst A;have⟨P,B⟩:=H z.p d q (b sW).1 C D;rw[fh,kh,D]at NX;simp only[PR.map]at NX;repeat first
    |refine bZ rfl ?_
    |intro ah
    |refine Fl ?_
    |refine b9 rfl ?_
    |refine a7 rfl ?_
    |refine a7 (ej _) ?_
   refine cL R (cq q) [44] hy ?_;rw[ga];cases Ap:cG (R.tok q) [44]with
   |false=>
    refine cy ?_;refine cH R w (cq q) [93] hy ?_;refine cy ?_;refine r1 (els:=(u::(J++[[p,g,i,j,n,l,m,f]]))) (by exact PH 8 u J _) sm (λah=>?_);exact I9
   |true=>
    refine cT R (cq q) (by show q<4294967296;omega) ?_;have xH:cG (R.tok q) [93]=B':=by
     exact Kf
    have G:q+1<j' R.ts:=w.step hy Ap;rw[W' (by rw[xH];decide),cw,X' Ap,cw]at NX;dsimp only at NX;exact⟨(cq (q+1),V++[d],u::(J++[[p,g,i,j,n,l,m,f]])),⟨G,.xC (by have:=(b sW).1;omega),(λh=>Y' h0 h),hK.snoc hd,by show(u::(J++[[p,g,i,j,n,l,m,f]])).length<=q+1;simp only[aiD,aiz,aiK];omega,(λ_ h=>Y' Z h),λ_ _=>⟨t,fu,by show (j' R.ts)-(q+1)<=fu;omega,htD,NX⟩⟩,by show (j' R.ts)-(q+1)<j' R.ts-z.p;omega,.pick 5 [0,1,2,3,4,8] ⟨Z,Z,Z,Z,tv⟩ Z Z Z Z Z dc ⟨Z,Z,Z,Z,Z,Z,Z,Z,(by exact d_ (λS=>q' (cX.box [.d (.int .i64 (ais 14)),.d (.str []),.d (.str []),.d (.str []),.d (.int .i64 (ais 0)),.d (.ps bT 0 5 1 [[k,aa,X,a,N]]),.d .cu,.ms 8 8 0 S S])) (by simp:j' J+1+1=j' (J++[[p,g,i,j,n,l,m,f]])+1)),Z,vY (adv u J _),fU _ 8 _,tv⟩,Z,Z⟩
  ·have h2:=NX h0;rw[E];cases Rc:((r x.p).bind λt q=>(cw R [[124]] q).map λ_=>t)with
   |bad o e=>rw[Rc]at h2;exact h2
   |ok t q=>rw[Rc]at h2;exact Y' (by rw[h2.1];try rfl) EJ
  have h2:=NX h0;cases Rc:((r x.p).bind λt q=>(cw R [[124]] q).map λ_=>t)with
  |bad o e=>rw[Rc]at h2;exact Y' (h2.2.2.symm.trans sW) h2.1
  |ok t q=>
   rw[Rc]at h2;have⟨P,U⟩:=h2;refine⟨t,j' R.ts,Nat.sub_le _ _,U,?_⟩;have ai:cG (R.tok q) [93]=B':=by rw[P]at L;exact cJ L rfl
   rw[E,Rc];show(ec (kh ex) R [93] [] q).map _=_;rw[ec,W' (by rw[ai];decide),P];rfl
def RS.ge.sV(b:G.ge c):G.next.ge (c+1):=λa=>⟨Nat.succ_le_succ (b a).1,(b a).2⟩
def RS.ge.low(a:G.ge (c+1)):G.ge c:=a.mono (Nat.le_succ c)
def nG(a:cG U K=A'):¬U.kind=1/\¬U.kind=3/\¬U.kind=4:=by
 simp only[cG,aiJ,Bool.or_eq_true,j_]at a;omega
def adx(a:Nat->PR Ex)(b:Rd)(g:Nat):PR Ex:=(dp b g).bind λf d=>(eV a b [58] d).bind λe q1=>(cw b [[62]] q1).map λ_=>.mk 7 [] f [] 0 [] [] [e]
def XL(e:Nat->PR Ty)(b:Nat->PR Ex)(d:Rd)(h:Nat):PR Ex:=(b h).bind λf a=>if cG (d.tok a) [58]then(e (a+1)).bind λg q1=>(cw d [[41]] q1).map λ_=>.mk 11 [] [] [] 0 [g] [] [f]else(cw d [[41]] a).map λ_=>f
def pJ(e:Nat->PR Ty)(d:Nat->PR Ex)(a:Rd)(b:Nat):fG e d a b=
 if(a.tok b).kind=3 then qS 9223372036854775807 a b
 else if(a.tok b).kind=4 then .ok (.mk 1 [] [] (a.tok b).text 0 [] [] []) (b+1)
 else if(a.tok b).kind=1 then Ab e a b
 else if cG (a.tok b) [116,114,117,101]then .ok (.mk 2 [] [] [] 1 [] [] []) (b+1)
 else if cG (a.tok b) [102,97,108,115,101]then .ok (.mk 2 [] [] [] 0 [] [] []) (b+1)
 else if cG (a.tok b) [123]then iY d a [125] 5 [] (b+1)
 else if cG (a.tok b) [60]then adx d a (b+1)
 else if cG (a.tok b) [91]then tj e d a (b+1)
 else if cG (a.tok b) [40]then XL e d a (b+1)
 else .bad (a.tok b).off 3:=by
 have l:adx d a (b+1)=match dp a (b+1)with
  |.bad f h=>.bad f h
  |.ok s g=>match eV d a [58] g with
   |.bad f h=>.bad f h
   |.ok i q1=>(cw a [[62]] q1).map λ_=>.mk 7 [] s [] 0 [] [] [i]:=by
  rw[adx];cases dp a (b+1)with
  |bad f h=>rfl
  |ok s g=>simp only[PR.bind];cases eV d a [58] g<;>rfl
 have p:tj e d a (b+1)=match e (b+1)with
  |.bad f h=>.bad f h
  |.ok n g=>match cw a [[124]] g with
   |.bad f h=>.bad f h
   |.ok _ q1=>(ec (kh d) a [93] [] q1).map λv=>.mk 14 [] [] [] 0 [n] [] v:=by
  rw[tj];cases e (b+1)with
  |bad f h=>rfl
  |ok s g=>simp only[PR.bind];cases cw a [[124]] g<;>rfl
 have m:XL e d a (b+1)=match d (b+1)with
  |.bad f h=>.bad f h
  |.ok i g=>match(if cG (a.tok g) [58]then(e (g+1)).map λn=>.mk 11 [] [] [] 0 [n] [] [i]else .ok i g:PR Ex)with
   |.bad f h=>.bad f h
   |.ok q q1=>(cw a [[41]] q1).map λ_=>q:=by
  rw[XL];cases d (b+1)with
  |bad f h=>rfl
  |ok i g=>
   simp only[PR.bind];cases cG (a.tok g) [58]with
   |true=>rw[X' rfl,X' rfl];cases e (g+1)<;>rfl
   |false=>rw[W' dc,W' dc]
 have o:(a.tok b).kind=1->Ab e a b=iA e a (a.tok b).text (b+1):=λt=>by
  rw[Ab,dp,W' (λk=>k t)];try rfl
 rw[fG,l,p,m];by_cases j:(a.tok b).kind=1
 ·rw[o j];try rfl
 simp only[W' j];try rfl
def aeg:Nat->Bool:=λa=>aiF a 79||aiF a 107||aiF a 109
def ady(p:E.Wf)(aa:∀ar,Ql (E.tok ar))(am:AG r E c)(X:XI dh r E (c+1))(J:mz dR one A E (c+1))(Q:jP E (c+1) A):mz ky one (fG r A E) E c:=by
 have ak:=p.len;refine mz.of (λd=>Z) (λd e n=>?_);have w:d.e=0->d=cq d.p:=λt=>eH n t;refine cB aeg (λ_=>Z) ?_;refine gh E d 3 e ?_;cases I:d.isKind E 3 with
 |true=>
  have⟨a,f⟩:=ke I;refine(abi p aa B' c).call d e n _ _ (λL F B G K N H M x i g l b=>?_);exact a8 0 ⟨Z,Z,_,_,_,_,_,_,_,_,x,i,g,l,λ_=>by rw[pJ,X' f];exact b a,Z⟩
 |false=>
  refine gh E d 4 e ?_;cases u:d.isKind E 4 with
  |true=>
   have⟨a,h⟩:=ke u;have f:=gL I a;have m:d.p+1<j' E.ts:=p.go _ _ (cn e) om;have q:=w a;have ai:=s8 (cn e);refine db ?_;refine bZ Z ?_;refine cp _ ai ?_;refine db ?_;refine cT E d om ?_;refine db ?_;refine a8 0 ⟨Z,Z,_,_,_,_,_,_,_,_,d.next,m,n.next,(λt=>Y' a t),λ_=>?_,Z⟩;rw[pJ,W' f,X' h,q];exact .ok (.mk .nil .nil .nil)
  |false=>
   refine cL E d [116,114,117,101] e ?_;cases o:d.is E [116,114,117,101]with
   |true=>
    have⟨a,t1⟩:=c9 o;have m:=p.step e t1;have q:=w a;have⟨j,f,h⟩:=nG t1;refine cT E d om ?_;refine a8 0 ⟨Z,Z,_,_,_,_,_,_,_,_,d.next,m,n.next,(λt=>Y' a t),λ_=>?_,Z⟩;rw[pJ,W' f,W' h,W' j,X' t1,q];exact .ok (.mk .nil .nil .nil)
   |false=>
    refine cL E d [102,97,108,115,101] e ?_;cases v:d.is E [102,97,108,115,101]with
    |true=>
     have⟨a,t2⟩:=c9 v;have m:=p.step e t2;have q:=w a;have t1:=cJ o a;have⟨j,f,h⟩:=nG t2;refine cT E d om ?_;refine a8 0 ⟨Z,Z,_,_,_,_,_,_,_,_,d.next,m,n.next,(λt=>Y' a t),λ_=>?_,Z⟩;rw[pJ,W' f,W' h,W' j,t1,W' dc,X' t2,q];exact .ok (.mk .nil .nil .nil)
    |false=>
     refine gh E d 1 e ?_;cases U:d.isKind E 1 with
     |true=>
      have⟨a,j⟩:=ke U;have f:=gL I a;have h:=gL u a;refine(abm p am).call d e n _ _ (λL F B G K N H M x i g l b=>?_);exact a8 0 ⟨Z,Z,_,_,_,_,_,_,_,_,x,i,g,l,λ_=>by rw[pJ,W' f,W' h,X' j];exact b a,Z⟩
     |false=>
      refine cL E d [123] e ?_;cases z:d.is E [123]with
      |true=>
       have⟨a,t3⟩:=c9 z;have m:=p.step e t3;have t1:=cJ o a;have t2:=cJ v a;have⟨j,f,h⟩:=nG t3;refine cT E d om ?_;refine NO (QP p J Q [125] dc d.next m n.sV) Z (λaw av x i g l _ _ _ b=>?_);refine cy ?_;refine a8 0 ⟨Z,Z,_,_,_,_,_,_,_,_,x,i,g.low,(λt=>Y' a t),λ_=>?_,Z⟩;rw[pJ,W' f,W' h,W' j,t1,W' dc,t2,W' dc,X' t3,iY];exact eF.map (b a) λaD af=>.mk .nil af.1 af.2
      |false=>
       refine cL E d [60] e ?_;cases C:d.is E [60]with
       |true=>
        have⟨a,t4⟩:=c9 C;have m:=p.step e t4;have t1:=cJ o a;have t2:=cJ v a;have t3:=cJ z a;have q:=w a;have⟨j,f,h⟩:=nG t4;refine cT E d om ?_;refine dv E p d.next 1 m ?_
        have T:=fB p (x:=d.next) (k:=1) dc m;have ae:=cW p (s:=[58]) T;refine cH E p _ [58] T ?_;refine J.call _ ae n.sV.word.expect _ _ (λL F B G K N H M x i g l b=>?_);intro aA;refine cy ?_;refine cH E p x [62] i ?_;refine cy ?_;refine a8 0 ⟨Z,Z,_,_,_,_,_,_,_,_,x.expect E [62],cW p i,g.low.expect,(λt=>Y' a t),λ_=>?_,Z⟩;rw[pJ,W' f,W' h,W' j,t1,W' dc,t2,W' dc,t3,W' dc,X' t4,adx];have ac:d.next=cq (d.p+1):=by rw[q];try rfl
        have O:=eF.name E (d.p+1);rw[<-ac]at O;refine eF.bind O ((RS.stay.expect.trans l).trans .expect) (λs aC an al=>?_);refine eF.bind (eF.val an n.next.word l b) .expect (λaq q1 y R=>?_);rw[y];exact eF.map (kL E q1 [62]) λ_ _=>by rw[<-al];exact .mk .nil .nil (.ps (.cons R .nil))
       |false=>
        refine cL E d [91] e ?_;cases V:d.is E [91]with
        |true=>
         have⟨a,t5⟩:=c9 V;have m:=p.step e t5;have t1:=cJ o a;have t2:=cJ v a;have t3:=cJ z a;have t4:=cJ C a;have⟨j,f,h⟩:=nG t5;refine cT E d om ?_;refine(adw p X J Q).call d.next m n.sV _ _ λL F B G K N H M x i g l b=>?_
         refine a8 0 ⟨Z,Z,_,_,_,_,_,_,_,_,x,i,g.low,(λt=>Y' a t),λ_=>?_,Z⟩;rw[pJ,W' f,W' h,W' j,t1,W' dc,t2,W' dc,t3,W' dc,t4,W' dc,X' t5];exact b a
        |false=>
         refine cL E d [40] e ?_;cases S:d.is E [40]with
         |true=>
          have⟨a,t6⟩:=c9 S;have m:=p.step e t6;have t1:=cJ o a;have t2:=cJ v a;have t3:=cJ z a;have t4:=cJ C a;have t5:=cJ V a;have⟨j,f,h⟩:=nG t6;have W:fG r A E d.p=XL r A E (d.p+1):=by
           rw[pJ,W' f,W' h,W' j,t1,W' dc,t2,W' dc,t3,W' dc,t4,W' dc,t5,W' dc,X' t6]
          refine cT E d om ?_;refine J.call d.next m n.sV _ _ λL F B G K N H M x i g l b=>?_
          refine cL E x [58] i ?_;cases P:x.is E [58]with
          |true=>
           have⟨ah,t7⟩:=c9 P;have aj:=p.step i t7;refine cT E x om ?_;refine X x.next aj g.next _ _ λk aB aE ay az ap Y ab ao D=>?_
           intro au ax;refine cy ?_;refine cH E p ap [41] Y ?_;refine cy ?_;refine a8 0 ⟨Z,Z,_,_,_,_,_,_,_,_,ap.expect E [41],cW p Y,ab.low.expect,(λt=>Y' a t),λ_=>?_,Z⟩;rw[W,XL];refine eF.bind (b a) (λt=>Y' ah t) (λaq q1 y R=>?_);rw[y]at t7 D;have t7:cG (E.tok q1) [58]=A':=t7;rw[X' t7];refine eF.bind (D Z) .expect (λaF q2 ad ag=>?_);rw[ad];exact eF.map (kL E q2 [41]) λ_ _=>.mk (.ps (.cons ag .nil) sm) .nil (.ps (.cons R .nil))
          |false=>
           refine cy ?_;refine cH E p x [41] i ?_;refine cy ?_;refine a8 0 ⟨Z,Z,_,_,_,_,_,_,_,_,x.expect E [41],cW p i,g.low.expect,(λt=>Y' a t),λ_=>?_,Z⟩;rw[W,XL];refine eF.bind (b a) .expect (λaq q1 y R=>?_);rw[y]at P⊢;have t7:cG (E.tok q1) [58]=B':=cJ P rfl;rw[W' (by rw[t7];decide)];exact eF.map (kL E q1 [41]) λ_ _=>R
         |false=>
          refine p8 E d e ?_;refine a8 0 ⟨Z,Z,_,_,_,_,_,_,_,_,d.oM E,by rw[RS.oM,nF];exact e,n.oM,(λt=>qW t),λa=>?_,Z⟩;have f:=gL I a;have h:=gL u a;have j:=gL U a;have t1:=cJ o a;have t2:=cJ v a;have t3:=cJ z a;have t4:=cJ C a;have t5:=cJ V a;have t6:=cJ S a;rw[pJ,W' f,W' h,W' j,t1,W' dc,t2,W' dc,t3,W' dc,t4,W' dc,t5,W' dc,t6,W' dc,RS.oM,RS.fail,X' a];exact .bad dc
def C7:Type:=D×D×D×D×D×D×D
def pfT:Tm:=[(1,.bp 0 0),(2,.bp 1 0),(3,.bp 2 0),(4,.bp 3 0)]
def pfB(a:C7)(b:V):cX:=.box [.d a.1,.d a.2.1,.d a.2.2.1,.d a.2.2.2.1,.d a.2.2.2.2.1,.d a.2.2.2.2.2.1,.d a.2.2.2.2.2.2,b]
def pfC(a:C7)(b:D):cP:=[a.1,a.2.1,a.2.2.1,a.2.2.2.1,a.2.2.2.2.1,a.2.2.2.2.2.1,a.2.2.2.2.2.2,b]
def pfS(f:Rd)(d:RS)(e:C7):Sum D (n_ cP)->VS
 |.inl b=>[.box (B0 f d),.box exZ,.box y0,pfB e (.d b)]
 |.inr a=>[.box (B0 f d),.box exZ,.box y0,pfB e (.ms 4 8 0 (j' a) (j' a)),.row 8 (a.map λb=>b.map V.d)]
def pfD(d:Sum D (n_ cP))(e:Nat):D:=match d with
 |.inl b=>b
 |.inr a=>.ps e 0 8 (j' a) a
def aeh:Nat->Bool:=λa=>aiF a 2000045
theorem TB{x:RS}:x.p<=(x.word E c).p:=by
 unfold RS.word;split
 ·exact Nat.le_succ _
 grind [RS.oM,nF]
def adz(ah:E.Wf)(ax:mz ky one (fG r A E) E c)(ab:jP E c (fG r A E))(aM:mz dR one A E (c+1))(W:jP E (c+1) A):mz fL one (gK r A E) E c:=by
 have aG:=ah.len;refine mz.of (λx=>Z) (λx aC an=>?_);refine cB aeh (λ_=>Z) ?_;refine ax.call x aC an _ _ (λc0 c1 c2 c3 c4 c5 c6 aB y hy EK Fj b=>?_);refine ck.arr (fx:=pfT) (gA:=pfS E y (c0,c1,c2,c3,c4,c5,c6) (.inl aB)) .eS ?_;refine Pc (λ_:RS×C7×Sum D (n_ cP)=>pfT) (λn=>pfS E n.1 n.2.1 n.2.2) (λn=>if n.1.e=0 then (j' E.ts)-n.1.p+1 else 0)
  (λn=>n.1.p<j' E.ts/\n.1.ge c/\x.stay n.1/\(x.e=0->n.1.e≠0->eF (gK r A E x.p) n.1 (λ_=>False))/\
   (x.e=0->n.1.e=0->x.p<n.1.p/\∃f a,j' E.ts-n.1.p<a/\(∀o,iz f (pfC n.2.1 (pfD n.2.2 o)))/\gK r A E x.p=lg A E a f n.1.p)) ?_ (y,(c0,c1,c2,c3,c4,c5,c6),.inl aB) ⟨hy,EK,Fj,λh0 t=>?_,λh0 H=>?_⟩
 ·intro ag aD;obtain⟨X,v⟩:∃aV,aV=(if ag.1.e=0 then (j' E.ts)-ag.1.p+1 else 0):=⟨_,rfl⟩;rw[<-v];have⟨e,L,s⟩:=ag;have⟨Q,ai,aF,aw,aq⟩:=aD;have v:X=(if e.e=0 then (j' E.ts)-e.p+1 else 0):=v;have P:e.p<j' E.ts:=Q;have p:e.ge c:=ai;have Fj:x.stay e:=aF;have af:x.e=0->e.e≠0->eF (gK r A E x.p) e (λ_=>False):=aw;have g:x.e=0->e.e=0->x.p<e.p/\∃f a,j' E.ts-e.p<a/\(∀o,iz f (pfC L (pfD s o)))/\gK r A E x.p=lg A E a f e.p:=aq;clear Q ai aF aw aq hy EK b;apply de (ι:=D) (T:=λ_=>pfT) (S:=λd=>pfS E e L (.inl d)) (I:=λd=>x.e=0->e.e=0->x.p<e.p/\∃f a,j' E.ts-e.p<a/\iz f (pfC L d)/\gK r A E x.p=lg A E a f e.p)
  ·intro ay;obtain⟨ad,N⟩:∃ad,s=ad:=⟨_,rfl⟩;rcases ad with d|j
   ·refine ck.arr (fx:=pfT) (gA:=pfS E e L (.inl d)) (.same ⟨Z,Z,Z,Z,tv⟩ (by rw[N])) (ay d (λh0 sW=>?_));have⟨aj,f,a,l,B,ae⟩:=g h0 sW;rw[N]at B;exact⟨aj,f,a,l,B 0,ae⟩
   refine ck.arr (fx:=pfT) (gA:=pfS E e L (.inr j)) (.same ⟨Z,Z,Z,Z,tv⟩ (by rw[N])) ?_;refine kN 4 3 pfT (es:=8) (l:=j) Z Z (dF _) ⟨Z,Z,Z,Z,tv⟩ ⟨tv,tv,tv,tv,tv⟩ ⟨tv,tv,tv,tv,tv,tv,tv,(λ_=>⟨Z,aiB (aiA _)⟩),tv⟩ (λo=>?_);refine ck.arr (fx:=pfT) (gA:=pfS E e L (.inl (.ps o 0 8 (j' j) j))) (.drop 4 ⟨Z,Z,Z,Z,tv⟩ Z Z Z Z Z Z ?_) (ay (.ps o 0 8 (j' j) j) (λh0 sW=>?_))
   ·show [_,_,_,cX.box [_,_,_,_,_,_,_,jN 4 o j (.ms 4 8 0 (j' j) (j' j))]]=[_,_,_,pfB L _];rw[Option.some.inj (oN (i:=4) (b:=o) (l:=j) rfl)];try rfl
   have⟨aj,f,a,l,B,ae⟩:=g h0 sW;rw[N]at B;exact⟨aj,f,a,l,B o,ae⟩
  rintro d g;have g:x.e=0->e.e=0->x.p<e.p/\∃f a,j' E.ts-e.p<a/\iz f (pfC L d)/\gK r A E x.p=lg A E a f e.p:=g;have⟨c0,c1,c2,c3,c4,c5,c6⟩:=L;refine cL E e [46] P ?_;cases I:e.is E [46]with
  |true=>
   have⟨sW,t1⟩:=c9 I;have h0:x.e=0:=by
    exact xS
   have u:=eH p sW;have J:=ah.step P t1;have⟨aa,f,a,Y,z,m⟩:=g h0 sW;obtain⟨a,rfl⟩:∃k,a=k+1:=⟨a-1,om⟩;rw[lg,X' t1]at m;refine cL E e [46] P ?_;rw[I];refine cT E e om ?_;refine dv E ah e.next 1 J ?_
   have i:=eF.name E (e.p+1);have ap:e.next=cq (e.p+1):=by rw[u];try rfl
   rw[<-ap]at i;have aK:=fB ah (x:=e.next) (k:=1) dc J;have aO:e.p+1<=(e.next.word E 1).p:=TB (x:=e.next);intro o;refine cy ?_;refine⟨(e.next.word E 1,(.int .i64 (ais 6),.str [],.str (e.next.dq E 1),.str [],.int .i64 (ais 0),.cu,.cu),.inl (.ps o 0 8 1 [[c0,c1,c2,c3,c4,c5,c6,d]])),⟨aK,p.next.word,(λh=>Y' h0 h),λ_ t=>?_,λ_ F=>⟨by show x.p<(e.next.word E 1).p;omega,?_⟩⟩,?_,.eD 4,Z,Z⟩
   ·show eF (gK r A E x.p) (e.next.word E 1) (λ_=>False);rw[m];cases C:dp E (e.p+1)with
    |bad am ak=>rw[C]at i;exact i
    |ok n K=>rw[C]at i;exact Y' (by rw[i.1];try rfl) t
   ·have F:(e.next.word E 1).e=0:=F;cases C:dp E (e.p+1)with
    |bad am ak=>rw[C]at i;exact Y' (i.2.2.symm.trans F) i.1
    |ok n K=>
     rw[C]at i m;refine⟨.mk 6 [] n [] 0 [] [] [f],a,by show (j' E.ts)-(e.next.word E 1).p<a;omega,λaR=>?_,by show gK r A E x.p=lg A E a (.mk 6 [] n [] 0 [] [] [f]) (e.next.word E 1).p;rw[m,i.1];try rfl⟩;rw[<-i.2];exact .mk .nil .nil (.ps (.cons z .nil))
   rw[v,X' sW];show(if(e.next.word E 1).e=0 then (j' E.ts)-(e.next.word E 1).p+1 else 0)<j' E.ts-e.p+1;split<;>omega
  |false=>
   refine cL E e [40] P ?_;cases U:e.is E [40]with
   |true=>
    have⟨sW,t2⟩:=c9 U;have t1:=cJ I sW;have h0:x.e=0:=by
     exact xS
    have u:=eH p sW;have J:=ah.step P t2;have⟨aa,f,a,Y,z,m⟩:=g h0 sW;obtain⟨a,rfl⟩:∃k,a=k+1:=⟨a-1,om⟩;rw[lg,W' (by rw[t1];decide),X' t2,iY]at m;refine cL E e [46] P ?_;rw[I];refine cT E e om ?_;refine NO (QP ah aM W [41] dc e.next J p.sV) Z (λdl aJ y hy EK aL aH ac al b=>?_);have b:=b sW;have R:∀(j:n_ cP),(∀O,gn O aJ->∀o,gn ([f]++O) (.ps o 0 8 (j' j) j))->(x.e=0->y.e≠0->eF (gK r A E x.p) y (λ_=>False))/\(x.e=0->y.e=0->x.p<y.p/\∃S T,j' E.ts-y.p<T/\(∀o,iz S (pfC (.int .i64 (ais 9),.str [],.str [],.str [],.int .i64 (ais 0),.cu,dl) (.ps o 0 8 (j' j) j)))/\gK r A E x.p=lg A E T S y.p)/\(if y.e=0 then (j' E.ts)-y.p+1 else 0)<X:=λj aA=>by
     have b:eF (ec (gx A E) E [41] [] (e.p+1)) y _:=b;cases w:ec (gx A E) E [41] [] (e.p+1)with
     |bad am ak=>
      rw[w]at b m;have t:y.e≠0:=by rw[b.2.2];exact b.1
      refine⟨λ_ _=>by rw[m];exact b,λ_ h=>Y' h t,?_⟩;rw[W' t,v,X' sW];omega
     |ok O K=>
      have aI:iY A E [41] 9 [f] (e.p+1)=.ok (j9 9 [] [] [f] O) K:=by rw[iY,w];try rfl
      obtain⟨q1,q2⟩:=yr ah W (by have:=(p sW).1;omega) J aI;rw[w]at b m;have⟨G,ao,au⟩:=b;subst G;refine⟨λ_ h=>Y' Z h,λ_ _=>⟨by show x.p<K;omega,_,a,by show (j' E.ts)-K<a;omega,λo=>?_,m⟩,?_⟩
      ·exact .mk .nil ao (aA _ au o)
      rw[X' (show(cq K).e=0 from rfl),v,X' sW];show (j' E.ts)-K+1<j' E.ts-e.p+1;omega
    have⟨aP,az⟩:=ac;rcases az.inv with⟨rfl,rfl⟩|⟨o,am,aQ,aE,rfl,aU⟩
    ·repeat first
      |refine bZ rfl ?_
      |intro o
      |refine Fl ?_
      |refine kf ?_
     obtain⟨e1,e2,e3⟩:=R [[c0,c1,c2,c3,c4,c5,c6,d]] (λO w o=>by cases w;exact .ps (.cons z .nil));exact I7
    rcases aE with _|⟨M,ar⟩
    ·repeat first
      |refine bZ rfl ?_
      |intro o
      |refine Fl ?_
      |refine kf ?_
     obtain⟨e1,e2,e3⟩:=R [[c0,c1,c2,c3,c4,c5,c6,d]] (λO w o=>by cases w with|ps h=>cases h;exact .ps (.cons z .nil));exact I7
    have aN:j' ar+1<=j' E.ts:=al;repeat first
     |refine bZ rfl ?_
     |intro o
     |refine Fl ?_
     |refine kf ?_
    obtain⟨e1,e2,e3⟩:=R ([c0,c1,c2,c3,c4,c5,c6,d]::M::ar) (λO w o=>by cases w with|ps h=>exact .ps (.cons z h));refine⟨(y,(.int .i64 (ais 9),.str [],.str [],.str [],.int .i64 (ais 0),.cu,dl),.inr ([c0,c1,c2,c3,c4,c5,c6,d]::M::ar)),⟨hy,EK.low,(λh=>Y' h0 h),e1,e2⟩,e3,.pick 4 [0,1,2,3,6] ⟨Z,Z,Z,Z,tv⟩ Z Z Z Z Z dc ⟨Z,Z,Z,Z,Z,Z,?_,Z,vY Z,fU _ 8 _,tv⟩,Z,Z⟩;exact d_ (λav=>q' (cX.box [.d (.int .i64 (ais 9)),.d (.str []),.d (.str []),.d (.str []),.d (.int .i64 (ais 0)),.d .cu,.d dl,.ms 6 8 0 av av])) (by simp only[aiu,aiD,aiK];omega: j' [[c0,c1,c2,c3,c4,c5,c6,d]]+j' (aiG (λak=>aiG V.d ak) (M::ar))=j' ([c0,c1,c2,c3,c4,c5,c6,d]::M::ar))
   |false=>
    refine cy ?_;refine a8 0 ⟨Z,Z,_,_,_,_,_,_,_,_,e,P,p,Fj,λh0=>?_,Z⟩;by_cases sW:e.e=0
    ·have⟨aa,f,a,Y,z,m⟩:=g h0 sW;obtain⟨a,rfl⟩:∃k,a=k+1:=⟨a-1,om⟩;rw[lg,W' (by rw[cJ I sW];decide),W' (by rw[cJ U sW];decide)]at m;have u:=eH p sW;rw[m];exact⟨u,z⟩
    exact(af h0 sW).imp λ_ h=>h.elim
 ·have l:=b h0;show eF (gK r A E x.p) y (λ_=>False);rw[gK];cases q:fG r A E x.p with
  |bad am ak=>rw[q]at l;exact l
  |ok n K=>rw[q]at l;exact Y' (by rw[l.1];try rfl) t
 have l:=b h0;have H:y.e=0:=H;cases q:fG r A E x.p with
 |bad am ak=>rw[q]at l;exact Y' (l.2.2.symm.trans H) l.1
 |ok n K=>
  rw[q]at l;have⟨Q,ai⟩:=ab _ _ _ (an h0).1 aC q;have⟨G,z⟩:=l;subst G;exact⟨Q,n,j' E.ts,by show (j' E.ts)-K<j' E.ts;omega,λ_=>z,by rw[gK,q];try rfl⟩
def aei:Nat->Bool:=λa=>aiF a 15
def XM(C:E.Wf)(n:∀V,Ql (E.tok V))(z:mz fL one (gK r A E) E c)(I:mz jy one (ql r A E J) E (c+1)):mz jy one (ql r A E (J+1)) E c:=by
 have D:=C.len;refine mz.of (λi=>Z) (λi g l=>?_);refine cB aei (λ_=>Z) ?_;refine cL E i [108,101,110,103,116,104] g ?_;cases e:i.is E [108,101,110,103,116,104]with
 |true=>
  have⟨b,t1⟩:=c9 e;have m:=C.step g t1;refine cT E i om ?_;refine I.call i.next m l.sV _ _ λy p q t x v w o s h d f a=>?_
  intro B;refine cy ?_;refine a8 0 ⟨Z,Z,_,_,_,_,_,_,_,_,s,h,d.low,(λP=>Y' b P),λ_=>?_,Z⟩;rw[ql,X' t1];exact eF.map (a b) λu R=>.mk .nil .nil (.ps (.cons R .nil))
 |false=>
  refine cL E i [45] g ?_;cases j:i.is E [45]with
  |true=>
   have⟨b,t2⟩:=c9 j;have t1:=cJ e b;have m:=C.step g t2;refine cT E i om ?_;refine(abi C n A' (c+1)).call i.next m l.sV _ _ λy p q t x v w o s h d f a=>?_
   refine a8 0 ⟨Z,Z,_,_,_,_,_,_,_,_,s,h,d.low,(λP=>Y' b P),λ_=>?_,Z⟩;rw[ql,t1,W' dc,X' t2];exact a b
  |false=>
   refine z.call i g l _ _ (λy p q t x v w o s h d f a=>?_);refine a8 0 ⟨Z,Z,_,_,_,_,_,_,_,_,s,h,d,f,λb=>?_,Z⟩;rw[ql,cJ e b,W' dc,cJ j b,W' dc];exact a b
def afI(D:E.Wf)(i:∀q,Ql (E.tok q))(d:mz fL one (gK r A E) E c)(b:jP E c (gK r A E)):∀j a,c<=a->j' E.ts-a<=j->mz jy one (ql r A E j) E a:=by
 intro j;induction j with
 |zero=>
  intro a e m;have f:=d.up b e;refine mz.of (λk=>Z) (λk g l=>?_);have h0:k.e≠0:=λh=>by have:=(l h).1;omega
  refine cB aei (λ_=>Z) ?_;refine cL E k [108,101,110,103,116,104] g ?_;rw[ea h0];refine cL E k [45] g ?_;rw[ea h0];refine f.call k g l _ _ (λC s t v z w x p y hy EK Fj n=>?_);exact Cm
 |succ j o=>exact λa e m=>XM D i (d.up b e) (o (a+1) om om)
def lL:Nat->n_ cC
 |0=>[[111,114]]
 |1=>[[97,110,100]]
 |3=>[[61,61],[61,61,61],[60]]
 |4=>[[43],[45],[43,43]]
 |5=>[[42]]
 |_=>[]
def ag9:Nat->Bool:=λa=>aiF a 5||aiF a 8||aiF a 11||aiF a 14||aiF a 17
def XN(d:c=0∨c=1∨c=3∨c=4∨c=5)(b:∀a,u (.ret (.d (.ps a 0 1 (j' (lL c)) (eY (lL c))))) H):b7 C cm s5 [cl c] H u:=by
 refine b7.closed (P:=λe=>∃a,e=.ret (.d (.ps a 0 1 (j' (lL c)) (eY (lL c))))) ?_ Z (λe f=>by obtain⟨a,rfl⟩:=f;exact b a);rcases d with rfl|rfl|rfl|rfl|rfl;all_goals
  refine cB ag9 (λ_=>Z) ?_;intro a;exact a8 0 ⟨Z,Z,a,Z⟩
end Go.Proofs.YtdocmpeionacbaaGreatDoor
