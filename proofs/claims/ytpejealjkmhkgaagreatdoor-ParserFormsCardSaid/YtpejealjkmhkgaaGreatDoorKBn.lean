/- Part of the proof. -/
import Derived.Test.YtpejealjkmhkgaaGreatDoorKBm
set_option linter.all false
set_option maxHeartbeats 16000000
set_option maxRecDepth 100000
open Int renaming ofNat->abK,ofNat_eq_natCast->aeu
open List renaming getElem?_eq_getElem->abL,getElem_mem->aet,take_add_one->aeM,length_map->aeO,take_of_length_le->aeP,take_append_drop->aeQ
open Nat renaming zero_le->aev
open Bool renaming and_eq_true->aeN
namespace Go.Proofs.YtpejealjkmhkgaaGreatDoor
open Go.AM Go.VM
def Ij(c:Prop)(d:cO):Prop:=∃b:Bool,(c->b=true)/\d=.ret (bX b)
variable{k:Prop}
theorem gR(c:¬k):Ij k (.ret (bX false)):=⟨false,fun b=>absurd b c,rfl⟩
theorem NB:Ij k (.ret (bX true)):=⟨true,fun _=>rfl,rfl⟩
abbrev EqI(n:Nat):Prop:=∀(d h:Ty) (e b:cH),ct d<=n->eZ d e->eZ h b->∀{c:VS} {i:cO->VS->Prop},(∀j:Bool,(d=h->j=true)->i (.ret (bX j)) c)->bV C ca gz [.agg (e.map V.d),.agg (b.map V.d)] c i
variable{r u:D}
theorem QZ(n:Nat)(N:EqI n)(a:n<4294967295){l i:List Ty}(W:cy l<=n)(O:fA l r)(Vs:fA i u):bV C ca pf [.d r,.d u,.fn gz [] []] [] fun V G=>G=[]/\Ij (l=i) V:=by
 have Q:=dA l;refine cm ?_;cases O with
 |nil=>
  exact Yz
 |ps h BM=>
  rename_i T R p els;have e1:=h.len;cases Vs with
  |nil=>
   rcases els with _|⟨x0,xr⟩
   ·exact absurd Z BM
   ·exact XW
  |ps z P=>
   rename_i y H c wl;have e2:=z.len;apply aZ<;>intro hc
   ·exact Vw
   ·have L:els.length=wl.length:=by
     exact XL
    refine cD (dB:=[(1,.d (.ps y H 5 c wl)),(2,.fn gz [] []),(15,.d (.ps T R 5 p els)),(16,bW els.length),(17,bW 0)]) ?_;refine cd.iter (fun b:Nat=>[(1,.d (.ps y H 5 c wl)),(2,.fn gz [] []),(15,.d (.ps T R 5 p els)),(16,bW els.length),(17,bW b)]) (fun _=>[]) (fun b=>l.length-b) (fun b=>b<=l.length) ?_ 0 (aev _);intro b Y;apply aZ<;>intro K
    ·have d:b<l.length:=e1▸ee K;have B:b<i.length:=om;obtain⟨f,M,s⟩:=h.get d;obtain⟨X,v,e⟩:=z.get B;have U:=dJ (aet d);obtain⟨I,w,o,J,f2,rfl⟩:=s.cZ;obtain⟨A,x,j,E,f3,rfl⟩:=e.cZ;have F:nth els b=some [.int .i64 (abK I),.str w,.str o,J,f2]:=by rw[ck];exact M
     have t:nth wl b=some [.int .i64 (abK A),.str x,.str j,E,f3]:=by rw[ck];exact v
     refine bZ Z ?_;refine cc _ F ?_;refine bZ Z ?_;refine cc _ t ?_;refine N l[b] i[b] [.int .i64 (abK I),.str w,.str o,J,f2] [.int .i64 (abK A),.str x,.str j,E,f3] om s e (fun bb hb=>?_);apply aZ<;>intro h2
     ·exact aap
     ·exact⟨b+1,d,iK,.eP 0 [],Z,Z⟩
    ·exact Iw
theorem M7(n:Nat)(i:EqI n){c b:FE}{t h:Ty}(j:ct t<=n)(v:eZ t c.ty)(l:eZ h b.ty):bV C ca hJ [fw c,fw b] [] fun w d=>d=[]/\Ij (c.n=b.n/\c.o=b.o/\t=h) w:=by
 refine cm ?_;apply aZ<;>intro p
 ·repeat refine de ?_
  apply aZ<;>intro o
  ·repeat refine de ?_
   refine i t h c.ty b.ty j v l (fun y s=>?_);repeat refine de ?_
   exact a8 0 ⟨Z,y,fun x=>s x.2.2,Z⟩
  ·repeat refine de ?_
   exact a8 0 ⟨Z,gR fun e=>of_decide_eq_false o e.2.1⟩
 ·repeat refine de ?_
  exact a8 0 ⟨Z,gR fun e=>of_decide_eq_false p e.1⟩
theorem M8(n:Nat)(W:EqI n)(ab:n<4294967295){l h:List oG}(q:cy (ea l)<=n)(X:ll l r)(p:ll h u):bV C ca oD [.d r,.d u,.fn hJ [] []] [] fun t j=>j=[]/\Ij (l=h) t:=by
 have Y:=dA (ea l);have g:(ea l).length=l.length:=by simp[ea]
 refine cm ?_;cases X with
 |nil=>
  cases p with
  |nil=>
   refine cd.loop ?_;exact Iw
  |ps o=>
   rename_i els;have e1:=o.len;rcases els with _|⟨M,V⟩
   ·refine cd.loop ?_;exact Iw
   ·exact a8 0 ⟨Z,gR fun e=>by rw[<-e]at e1;simp at e1⟩
 |ps o=>
  rename_i k a i els;have e1:=o.len;cases p with
  |nil=>
   rcases els with _|⟨M,V⟩
   ·refine cd.loop ?_;exact Iw
   ·exact XW
  |ps x=>
   rename_i v G c wl;have e2:=x.len;apply aZ<;>intro hc
   ·exact Vw
   ·have R:els.length=wl.length:=by
     exact XL
    refine cD (dB:=[(1,.d (.ps v G 7 c wl)),(2,.fn hJ [] []),(15,.d (.ps k a 7 i els)),(16,bW els.length),(17,bW 0)]) ?_;refine cd.iter (fun b:Nat=>[(1,.d (.ps v G 7 c wl)),(2,.fn hJ [] []),(15,.d (.ps k a 7 i els)),(16,bW els.length),(17,bW b)]) (fun _=>[]) (fun b=>l.length-b) (fun b=>b<=l.length) ?_ 0 (aev _);intro b aa;apply aZ<;>intro Q
    ·have d:b<l.length:=e1▸ee Q;have y:b<h.length:=om;obtain⟨K,U,E,H,I⟩:=o.get d;obtain⟨L,S,A,J,F⟩:=x.get y;have m:ct l[b].2.1<=cy (ea l):=dJ (List.mem_map_of_mem (aet d));have z:nth els b=some (fe K):=by rw[ck];exact U
     have s:nth wl b=some (fe L):=by rw[ck];exact S
     refine bZ Z ?_;refine cc _ z ?_;refine bZ Z ?_;refine cc _ s ?_;refine bV.closed (P:=fun t=>Ij (K.n=L.n/\K.o=L.o/\l[b].2.1=h[b].2.1) t) (args:=[fw K,fw L]) ((M7 n W om I F).mono fun t j o=>⟨o.1,by obtain⟨w,_,e⟩:=o.2;rw[e];rfl,o.2⟩) Z (fun t T=>?_);obtain⟨w,P,rfl⟩:=T;apply aZ<;>intro O
     ·have B:w=false:=sh O;refine a8 0 ⟨Z,gR fun e=>?_⟩;have:=P (by subst e;exact⟨E.symm.trans A,H.symm.trans J,rfl⟩);rw[B]at this;cases this
     ·exact⟨b+1,d,iK,.eP 0 [],Z,Z⟩
    ·exact Iw
theorem Q0(n:Nat)(B:EqI n)(A:n<4294967295)(t S:Ty)(Q y:cH)(I:ct t<=n+1)(G:eZ t Q)(D:eZ S y):bV C ca gz [.agg (Q.map V.d),.agg (y.map V.d)] [] fun j i=>i=[]/\Ij (t=S) j:=by
 cases G with
 |mk N K=>
  rename_i m q U h b g k;cases D with
  |mk F w=>
   rename_i X a T l c W Y;have P:cy h+qa b<=n:=by simp only[ct]at I;omega
   have O:=nE b;refine cm ?_;apply aZ<;>intro x
   ·have R:=AJ x;repeat refine de ?_
    apply aZ<;>intro H
    ·repeat refine de ?_
     apply aZ<;>intro M
     ·repeat refine de ?_
      refine bV.closed (P:=fun j=>Ij (h=l) j) ((QZ n B A om N F).mono fun j i p=>⟨p.1,by obtain⟨J,_,d⟩:=p.2;rw[d];rfl,p.2⟩) Z (fun j o=>?_);obtain⟨s,E,rfl⟩:=o;repeat refine de ?_
      apply aZ<;>intro v
      ·have e:s=true:=v;subst e;repeat refine de ?_
       refine bV.closed (P:=fun j=>Ij (b=c) j) ((M8 n B A om K w).mono fun j i p=>⟨p.1,by obtain⟨J,_,d⟩:=p.2;rw[d];rfl,p.2⟩) Z (fun j o=>?_);obtain⟨L,z,rfl⟩:=o;repeat refine de ?_
       exact a8 0 ⟨Z,L,fun d=>z (by cases d;rfl),Z⟩
      ·have e:s=false:=v;subst e;repeat refine de ?_
       exact a8 0 ⟨Z,gR fun d=>absurd (E (by cases d;rfl)) dc⟩
     ·repeat refine de ?_
      exact a8 0 ⟨Z,gR fun d=>of_decide_eq_false M (by cases d;rfl)⟩
    ·repeat refine de ?_
     exact a8 0 ⟨Z,gR fun d=>of_decide_eq_false H (by cases d;rfl)⟩
   ·repeat refine de ?_
    exact a8 0 ⟨Z,gR fun d=>of_decide_eq_false x (by cases d;rfl)⟩
theorem OJ:∀c,c<4294967296->EqI c:=by
 intro c;induction c with
 |zero=>intro _ i s w e h;have:=gO i;omega
 |succ c t=>
  intro G i s w e l d b F I p;have n:=Q0 c (t om) om i s w e l d b;obtain⟨L,M,z,J,K,rfl⟩:=d.cZ;obtain⟨C,H,y,B,E,rfl⟩:=b.cZ;exact bV.closed (P:=fun j=>Ij (i=s) j) (n.mono fun j x h=>⟨h.1,by obtain⟨A,_,v⟩:=h.2;rw[v];rfl,h.2⟩) Z (fun j ⟨D,o,v⟩=>by rw[v];exact p D o)
variable{f:jX} {a:cH}
theorem eK(J:rs f a):∃j b t y w f1 v c n x f2 l d h o f3 A z i e p t4 s d4,tG f.ps j/\eZ f.lo (eQ b t y w f1)/\eZ f.up (eQ v c n x f2)/\eZ f.ty (eQ l d h o f3)/\je f.ex [.int .i64 (abK A),.str z,.str i,.str e,.int .i64 p,t4,s,d4]/\a=mR f.k f.n f.exp f.wj f.note j (eQ b t y w f1) (eQ v c n x f2) (eQ l d h o f3) [.int .i64 (abK A),.str z,.str i,.str e,.int .i64 p,t4,s,d4] f.m f.tg:=by
 obtain⟨j,K,I,H,G,F,B,E,C,D,rfl⟩:=J;obtain⟨b,t,y,w,f1,rfl⟩:=B.cZ;obtain⟨v,c,n,x,f2,rfl⟩:=E.cZ;obtain⟨l,d,h,o,f3,rfl⟩:=C.cZ;obtain⟨A,z,i,e,p,t4,s,d4,rfl⟩:=D.eight;exact⟨j,b,t,y,w,f1,v,c,n,x,f2,l,d,h,o,f3,A,z,i,e,p,t4,s,d4,F,B,E,C,D,Z⟩
theorem zA(b:jX)(F:cH)(n:rs b F)(Q:ct b.lo<4294967295/\ct b.up<4294967295):bV C ca uT [.agg (F.map V.d)] [] fun G e=>e=[]/\Ij (b.lo=b.up/\b.up=b.ty) G:=by
 obtain⟨J,o,A,D,B,f1,i,c,l,j,f2,w,s,v,y,f3,K,R,I,H,N,t4,O,d4,L,p,d,x,M,rfl⟩:=eK n;refine cm ?_;refine OJ (ct b.lo) om b.lo b.up (eQ o A D B f1) (eQ i c l j f2) (Nat.le_refl _) p d (fun P t=>?_);cases P with
 |true=>
  refine OJ (ct b.up) om b.up b.ty (eQ i c l j f2) (eQ w s v y f3) (Nat.le_refl _) d x (fun z h=>?_);exact a8 0 ⟨Z,z,fun E=>h E.2,Z⟩
 |false=>
  exact a8 0 ⟨Z,gR fun E=>absurd (t E.1) dc⟩
def lX:List mM->Nat
 |[]=>0
 |p::b=>ct p.b+lX b
theorem zB(c b:List mM):lX (c++b)=lX c+lX b:=by
 induction c with
 |nil=>simp[lX]
 |cons e c d=>simp only[List.cons_append,lX,d];omega
open Classical in
noncomputable def iw(b:jX):Nat:=1+b.ps.length+(if b.k=0 then ct b.ty+(if b.lo=b.up/\b.up=b.ty then 0 else ct b.lo+ct b.up)else if b.k=1 then ct b.ty+cP b.ex+lX b.ps else 0)
noncomputable def gL(l:List jX):Nat:=(l.map iw).sum
noncomputable def Bk(b:FO):Nat:=1+b.is.length+gL b.ds
theorem DO(c b:List jX):gL (c++b)=gL c+gL b:=by simp[gL]
theorem vp(l:List jX):l.length<=gL l:=by
 induction l with
 |nil=>simp[gL]
 |cons b l d=>
  have:gL (b::l)=iw b+gL l:=by simp[gL]
  have c:1+b.ps.length<=iw b:=by rw[iw];omega
  simp only[List.length_cons];omega
variable{q:Nat}
theorem FY{l:List mM}(b:q<l.length):lX (l.take (q+1))=lX (l.take q)+ct l[q].b:=by
 rw[aeM,abL b,zB];simp[lX]
theorem Ce(l:List mM)(b:Nat):lX (l.take b)<=lX l:=by
 have c:=zB (l.take b) (l.drop b);rw[aeQ]at c;omega
theorem FZ{l:List jX}(b:q<l.length):gL (l.take (q+1))=gL (l.take q)+iw l[q]:=by
 rw[aeM,abL b,DO];simp[gL]
theorem Cf(l:List jX)(b:Nat):gL (l.take b)<=gL l:=by
 have c:=DO (l.take b) (l.drop b);rw[aeQ]at c;omega
theorem oh.get{l:List jX}{els:List cH}(h:oh l els){i:Nat}(hi:i<l.length):∃d,els[i]?=some d/\rs l[i] d:=by
 exact NH
theorem vb.get{l:List mM}{els:List cH}(h:vb l els){i:Nat}(hi:i<l.length):∃d,els[i]?=some d/\HF l[i] d:=by
 exact NH
theorem wr0{c b:Nat}(e:c<4611686018427387904)(d:c=b):IntKind.i64.wrap (1+abK c)=abK (1+b):=by
 subst d;exact c4 (a:=1) om
theorem wr1{c b:Nat}(d:c+b<4611686018427387904):IntKind.i64.wrap (abK c+IntKind.i64.wrap (1+abK b))=abK (c+(1+b)):=by
 rw[wr0 om rfl,c4 om]
theorem zC(b:jX):1+b.ps.length<=iw b:=by rw[iw];omega
theorem KE(b:f.k=0)(c:f.lo=f.up/\f.up=f.ty):iw f=1+f.ps.length+ct f.ty:=by rw[iw,if_pos b,if_pos c];omega
theorem DP(b:f.k=0)(c:¬(f.lo=f.up/\f.up=f.ty)):iw f=1+f.ps.length+(ct f.ty+(ct f.lo+ct f.up)):=by rw[iw,if_pos b,if_neg c]
theorem wh(b:f.k=1):iw f=1+f.ps.length+(ct f.ty+cP f.ex+lX f.ps):=by rw[iw,if_neg om,if_pos b]
theorem AE(b:f.k=0):1+f.ps.length+ct f.ty<=iw f/\ct f.lo<=iw f/\ct f.up<=iw f:=by
 by_cases c:f.lo=f.up/\f.up=f.ty
 ·rw[KE b c,c.1,c.2];omega
 ·rw[DP b c];omega
def adi(b o c:Nat)(d:List cH)(e:Nat×Nat):Tm:=[(3,bW e.2),(13,.d (.ps b o 31 c d)),(14,bW d.length),(15,bW e.1)]
def inT(b o c:Nat)(d:List cH)(l h i e:Nat)(es:List cH)(j:Nat×Nat):Tm:=[(3,bW j.2),(13,.d (.ps b o 31 c d)),(14,bW d.length),(15,bW l),(58,.d (.ps h i 7 e es)),(59,bW es.length),(60,bW j.1)]
theorem KF(T:FO)(az:cH)(aI:At T az)(aO:Bk T<1073741824)(O:∀x∈T.ds,x.k=1->ej x.ex):bV C ca oN [.agg (az.map V.d)] [] fun m N=>N=[]/\∃n,n<=Bk T/\m=.ret (bW n):=by
 obtain⟨w,ad,hi,v,rfl⟩:=aI;have am:∃ao,ao=T.is.length:=⟨_,rfl⟩;obtain⟨bh,lY,nL⟩:=T;have aQ:1+lY.length+gL nL<1073741824:=aO;have O:∀x∈nL,x.k=1->ej x.ex:=O;have aR:=vp nL;have hi:wY lY w:=hi;have v:zn nL ad:=v;have c:∃L:Nat,L=lY.length/\((w=.ci/\L=0)∨∃B E H,w=.ps B E 2 H (lY.map fF)):=by
  exact ab9
 clear hi;obtain⟨L,hL,hi⟩:=c;have hw1:∀ak,ak=L->IntKind.i64.wrap (1+abK ak)=abK (1+L):=fun ak D=>wr0 om D;rcases hi with⟨rfl,hL0⟩|⟨bl,aX,ba,rfl⟩;all_goals
  refine cm ?_;cases v with
  |nil=>
   exact YC
  |ps h al=>
   rename_i B E H d;have Bm:=h.len;refine cd.less (dB:=adi B E H d (0,1+L)) ⟨by first|exact int_eq (hw1 0 hL0.symm)|exact int_eq (hw1 _ (by rw[aeO];exact hL.symm)),Z,Z,Z,tv⟩ ?_;refine cd.iter (adi B E H d) (fun _=>_) (fun x=>nL.length-x.1) (fun x=>x.1<=nL.length/\x.2<=1+L+gL (nL.take x.1)) ?_ (0,1+L) ⟨aev _,Nat.le_add_right _ _⟩;rintro⟨j,n⟩ ⟨S,R⟩;have bc:j<=nL.length:=S;have hnj:n<=1+L+gL (nL.take j):=R;have aT:=Cf nL j;apply aZ<;>intro hc
   ·have lU:j<nL.length:=Bm▸ee hc;have f:=FZ lU;have an:=Cf nL (j+1);obtain⟨az,au,p⟩:=h.get lU;obtain⟨x,I⟩:∃x,x=nL[j]:=⟨_,rfl⟩;have ae:x.k=1->ej x.ex:=by rw[I];exact O _ (aet lU)
    rw[<-I]at p f;obtain⟨ps,aJ,aG,aC,aB,f1,av,aK,aD,aH,f2,u,q,r,ag,f3,bm,be,bn,bf,bg,t4,aY,d4,h1,aE,ar,aa,ay,rfl⟩:=eK p;have ah:=(ck d j).trans au;have s:∃b:Nat,b=x.ps.length/\((ps=.ci/\b=0)∨∃B E H e,ps=.ps B E 7 H e/\vb x.ps e/\e.length=b):=by
     exact Vv
    obtain⟨b,P,s⟩:=s;have aV:b<1073741824:=by
     have:=zC x;omega
    have i:∀F,F=b->IntKind.i64.wrap (abK n+IntKind.i64.wrap (1+abK F))=abK (n+(1+b)):=fun F D=>by
     subst D;exact wr1 om
    refine bZ Z ?_;refine cc _ ah ?_;rcases s with⟨rfl,l⟩|⟨ai,g,a,e,rfl,K,o⟩;all_goals
     apply aZ<;>intro ax
     ·have J:x.k=0:=AJ (b:=0) ax;obtain⟨ac,aU,aP⟩:=AE J;rw[<-P]at ac;refine nF x.ty (eQ u q r ag f3) aa om ?_;refine bV.closed (P:=fun m=>Ij (x.lo=x.up/\x.up=x.ty) m) ((zA x _ p ⟨om,om⟩).mono fun m N h=>⟨h.1,by obtain⟨aL,_,D⟩:=h.2;rw[D];rfl,h.2⟩) Z (fun m aN=>?_);obtain⟨bj,X,rfl⟩:=aN;apply aZ<;>intro W
      ·have Y:¬(x.lo=x.up/\x.up=x.ty):=fun D=>by rw[X D]at W;cases W
       have z:=DP J Y;rw[<-P]at z;repeat refine ch ?_
       refine nF x.lo (eQ aJ aG aC aB f1) aE om ?_;repeat refine ch ?_
       refine nF x.up (eQ av aK aD aH f2) ar om ?_;repeat refine ch ?_
       exact⟨(j+1,n+(1+b)+ct x.ty+(ct x.lo+ct x.up)),⟨lU,by show _<=1+L+gL (nL.take (j+1));omega⟩,iK,.pick 0 [0] ⟨int_eq (by rw[i _ (by first|exact l.symm|exact o),c4 om,c4 om,c4 om]),Z,Z,int_eq (cp om),tv⟩ Z Z Z Z Z dc ⟨Z,Z,tv⟩,Z,Z⟩
      ·exact⟨(j+1,n+(1+b)+ct x.ty),⟨lU,by show _<=1+L+gL (nL.take (j+1));omega⟩,iK,.pick 0 [0] ⟨int_eq (by rw[i _ (by first|exact l.symm|exact o),c4 om]),Z,Z,int_eq (cp om),tv⟩ Z Z Z Z Z dc ⟨Z,Z,tv⟩,Z,Z⟩
     ·apply aZ<;>intro af
      ·have A:x.k=1:=AJ (b:=1) af;have z:=wh A;rw[<-P]at z;repeat refine ch ?_
       refine nF x.ty (eQ u q r ag f3) aa om ?_;repeat refine ch ?_
       refine DL x.ex _ ay (ae A) om ?_;repeat refine ch ?_
       have M:∀F,F=b->IntKind.i64.wrap (IntKind.i64.wrap (abK n+IntKind.i64.wrap (1+abK F))+IntKind.i64.wrap (abK (ct x.ty)+abK (cP x.ex)))=abK (n+(1+b)+(ct x.ty+cP x.ex)):=fun F D=>by
        rw[i F D,c4 om,c4 om]
       first
        |refine cd.loop ?_
         exact⟨(j+1,n+(1+b)+(ct x.ty+cP x.ex)),⟨lU,by show _<=1+L+gL (nL.take (j+1));omega⟩,iK,.pick 0 [0] ⟨int_eq (M _ l.symm),Z,Z,int_eq (cp om),tv⟩ Z Z Z Z Z dc ⟨Z,Z,tv⟩,Z,Z⟩
        |refine cd.less (dB:=inT B E H d j ai g a e (0,n+(1+b)+(ct x.ty+cP x.ex))) ⟨int_eq (M _ o),rfl,rfl,rfl,rfl,rfl,rfl,tv⟩ ?_
         refine cd.iter (inT B E H d j ai g a e) (fun _=>_) (fun ab=>x.ps.length-ab.1) (fun ab=>ab.1<=x.ps.length/\ab.2=n+(1+b)+(ct x.ty+cP x.ex)+lX (x.ps.take ab.1)) ?_ (0,n+(1+b)+(ct x.ty+cP x.ex)) ⟨aev _,Z⟩;rintro⟨t,y⟩ ⟨S,R⟩;have hi:t<=x.ps.length:=S;have aW:y=n+(1+b)+(ct x.ty+cP x.ex)+lX (x.ps.take t):=R;have aM:=Ce x.ps t;have Q:=K.len;apply aZ<;>intro k
         ·have c:t<x.ps.length:=Q▸ee k;have aS:=FY c;have aF:=Ce x.ps (t+1);obtain⟨bk,aA,aL,G,rfl⟩:=K.get c;obtain⟨aw,ap,aq,aj,f7,rfl⟩:=G.cZ;have U:=(ck e t).trans aA;refine bZ Z ?_;refine cc _ U ?_;refine nF x.ps[t].b (eQ aw ap aq aj f7) G om ?_;exact⟨(t+1,y+ct x.ps[t].b),⟨c,by show y+ct x.ps[t].b=_+lX (x.ps.take (t+1));omega⟩,iK,.pick 0 [0,1] ⟨int_eq (c4 om),Z,Z,Z,Z,Z,int_eq (cp om),tv⟩ Z Z Z Z Z dc ⟨Z,Z,Z,Z,tv⟩,Z,Z⟩
         ·exact⟨(j+1,y),⟨lU,by show y<=1+L+gL (nL.take (j+1));omega⟩,iK,.eP 0 [0],Z,Z⟩
      ·exact⟨(j+1,n+(1+b)),⟨lU,by show _<=1+L+gL (nL.take (j+1));have:=zC x;omega⟩,iK,.pick 0 [0] ⟨int_eq (by rw[i _ (by first|exact l.symm|exact o)]),Z,Z,int_eq (cp om),tv⟩ Z Z Z Z Z dc ⟨Z,Z,tv⟩,Z,Z⟩
   ·exact Zd
def pv(c b:vY):Bool:=decide (b.p=c.p)||decide (b.a=c.a)
def mT(b:cq):List vY->List vY->Nat
 |_,[]=>0
 |done,c::d=>if c.p=b then 14 else if done.any (pv c)then 5 else mT b (done++[c]) d
def mN(b:FO):Nat:=if 16<b.is.length∨64<b.ds.length then 7 else mT b.p [] b.is
theorem KG(i:vY)(d:List vY)(A:d.length<4294967296)(b o c:Nat):bV C ca ir [.d (.ps b o 2 c (d.map fF)),.fn jB [] [.bp 0 0]] [.box [cn i.p,cn i.a]] fun z v=>∃j,v=[.box j]/\cM z=true/\fu 0 j=true/\(z=.ret (bX (d.any (pv i)))/\j=[cn i.p,cn i.a]):=by
 have n:(d.map fF).length=d.length:=aeO _;refine cm ?_;refine cj ?_;refine cD (dB:=[(0,.d (.ps b o 2 c (d.map fF))),(1,.fn jB [] [.bp 0 0]),(7,bW (d.map fF).length),(8,bW 0)]) ?_;refine cd.iter (fun h:Nat=>[(0,.d (.ps b o 2 c (d.map fF))),(1,.fn jB [] [.bp 0 0]),(7,bW (d.map fF).length),(8,bW h)]) (fun _=>[.box [cn i.p,cn i.a]]) (fun h=>d.length-h) (fun h=>h<=d.length/\(d.take h).any (pv i)=false) ?_ 0 ⟨aev _,Z⟩;rintro h ⟨B,p⟩;apply aZ<;>intro w
 ·have e:h<d.length:=n▸ee w;have x:nth (d.map fF) h=some (fF d[h]):=by rw[ck,List.getElem?_map,abL e];rfl
  refine bZ Z ?_;refine cc _ x ?_;refine cj ?_;have l:pv i d[h]=true->d.any (pv i)=true:=fun w=>List.any_eq_true.2 ⟨_,aet e,w⟩;apply aZ<;>intro t
  ·repeat refine de ?_
   refine a8 1 ⟨_,Z,Z,Z,?_,Z⟩;rw[l (by simp only[pv,show decide (d[h].p=i.p)=true from t,Bool.true_or])];rfl
  ·repeat refine de ?_
   apply aZ<;>intro s
   ·refine a8 1 ⟨_,Z,Z,Z,?_,Z⟩;rw[l (by simp only[pv,show decide (d[h].a=i.a)=true from s,Bool.or_true])];rfl
   ·refine⟨h+1,⟨e,?_⟩,iK,.eP 1 [0],Z,Z⟩;rw[aeM,abL e,List.any_append,p];simp only[Option.toList,List.any_cons,List.any_nil,Bool.or_false,Bool.false_or,pv,show decide (d[h].p=i.p)=false from t,show decide (d[h].a=i.a)=false from s]
 ·have e:d.length<=h:=n▸dq w;rw[aeP e]at p;refine a8 1 ⟨_,Z,Z,Z,?_,Z⟩;rw[p];rfl
variable{g:List cH}
theorem K4(e:vY)(h:List vY)(j:g=h.map fF)(p:h.length<4294967296)(b o c l:Nat){σ:VS}{K:cO->VS->Prop}(d:nth σ l=some (.box [cn e.p,cn e.a]))(i:K (.ret (bX (h.any (pv e)))) σ):bV C ca ir [.d (.ps b o 2 c g),.fn jB [] [.bp l 0]] σ K:=by
 subst j;exact bV.one (dM:=[.d (.ps b o 2 c (h.map fF)),.fn jB [] [.bp 0 0]]) (P:=fun t n=>t=.ret (bX (h.any (pv e)))/\n=[cn e.p,cn e.a]) (KG e h p b o c) l d Z Z Z (fun t v ⟨w,s⟩=>by rw[w,s,u3 d];exact i)
theorem M9(w:FO)(P:cH)(A:At w P)(R:Bk w<=4096)(Q:∀t∈w.ds,t.k=1->ej t.ex)(I:fV w.p=true)(F:∀t∈w.is,fV t.p=true/\cK t.a=true):bV C ca EJ [.agg (P.map V.d)] [] fun B x=>x=[]/\B=.ret (bW (mN w)):=by
 have E:=KF w P A om Q;have XD:∀s,fV s=true->s.length<=64:=fun s h=>by
  simp only[fV,aeN,decide_eq_true_eq]at h;exact h.2.1
 obtain⟨i,j,hi,e,rfl⟩:=A;obtain⟨mp,lY,nL⟩:=w;have hi':(i=.ci/\lY=[])∨∃b o c,lY.length<=c/\i=.ps b o 2 c (lY.map fF):=by
  revert hi;intro hi;have hi:wY lY i:=hi;cases hi with
  |nil=>exact .inl ⟨rfl,rfl⟩
  |ps S=>exact .inr ⟨_,_,_,S,rfl⟩
 have d:(j=.ci/\nL=[])∨∃b o c els,j=.ps b o 31 c els/\els.length=nL.length:=by
  have e:zn nL j:=e;cases e with
  |nil=>exact .inl ⟨rfl,rfl⟩
  |ps h _=>exact .inr ⟨_,_,_,_,rfl,h.len⟩
 have hH:mN ⟨mp,lY,nL⟩=if 16<lY.length∨64<nL.length then 7 else mT mp [] lY:=rfl
 have X:lY.length<4096:=by have:1+lY.length+gL nL<=4096:=R;omega
 clear hi e;have U:mp.length<=64:=XD mp I;have hp':fV mp=true:=I;have adw:∀t∈lY,fV t.p=true/\cK t.a=true:=F;have abI:∀{y:VS} {L:cO->VS->Prop},(∀n,n<=4096->L (.ret (bW n)) y)->bV C ca oN [.agg ([D.str mp,i,j].map V.d)] y L:=fun{y} {L} N=>
  bV.closed (P:=fun B=>∃n,n<=4096/\B=.ret (bW n)) (E.mono fun B x h=>⟨h.1,by obtain⟨n,_,z⟩:=h.2;rw[z];rfl,by obtain⟨n,W,z⟩:=h.2;exact⟨n,om,z⟩⟩) rfl (fun B ⟨n,W,z⟩=>by rw[z];exact N n W)
 have v:∀T:List cH,T.length=nL.length->¬64<nL.length->decide (64<abK T.length)=false:=fun T z h=>by rw[z];exact decide_eq_false (by simp only[aeu];omega)
 have H:¬16<lY.length->decide (16<abK (lY.map fF).length)=false:=fun h=>by rw[aeO];exact decide_eq_false (by simp only[aeu];omega)
 rcases hi' with⟨rfl,hmi⟩|⟨b,o,c,O,rfl⟩
 ·have p:¬16<lY.length:=by rw[hmi];decide
  rcases d with⟨rfl,l⟩|⟨K,G,J,els,rfl,Bm⟩
  ·have h64:¬64<nL.length:=by rw[l];decide
   exact Ys
  ·by_cases h64:64<nL.length
   ·exact Yx
   ·have Io:=v els Bm h64;exact Ys
 ·by_cases p:16<lY.length
  ·have M:decide (16<abK (lY.map fF).length)=true:=by rw[aeO];exact decide_eq_true (by simp only[aeu];omega)
   rcases d with⟨rfl,l⟩|⟨K,G,J,els,rfl,Bm⟩;all_goals
    refine cm ?_;refine lH mp om ?_;refine a7 (by rw[hp'];rfl) ?_;repeat refine de ?_
    exact a8 0 ⟨Z,by rw[hH,if_pos (.inl p)];rfl⟩
  ·have M:=H p;rcases d with⟨rfl,l⟩|⟨K,G,J,els,rfl,Bm⟩
   ·have h64:¬64<nL.length:=by rw[l];decide
    exact X7
   ·by_cases h64:64<nL.length
    ·exact Yx
    ·have Io:=v els Bm h64;exact X7
def ZY(c:Prop)(d:cO):Prop:=∃b:Bool,(c->b=false)/\d=.ret (bX b)
theorem ZY.closed{b:cO}(c:ZY k b):cM b=true:=by obtain⟨e,_,d⟩:=c;rw[d];rfl
variable{m:FuncId}
theorem adj(J:Prop){l:List mM}(v:(C.ff.get m).isSome=true)(z:∀Q∈l,∀B,HF Q B->∀{t:VS} {K:cO->VS->Prop},(∀o:Bool,(J->o=false)->K (.ret (bX o)) t)->bV C ca m [.agg (B.map V.d)] t K)(R:l.length<4294967296){ps:D}(w:tG l ps):bV C ca iI [.d ps,.fn m [] []] [] fun O p=>p=[]/\ZY J O:=by
 refine cm ?_;refine cj ?_;cases w with
 |nil=>
  refine cd.loop ?_;exact a8 0 ⟨Z,false,fun _=>Z,Z⟩
 |ps w=>
  rename_i o L N b;have i:=w.len;refine cD (dB:=[(0,.d (.ps o L 7 N b)),(1,.fn m [] []),(7,bW b.length),(8,bW 0)]) ?_;refine cd.iter (fun c:Nat=>[(0,.d (.ps o L 7 N b)),(1,.fn m [] []),(7,bW b.length),(8,bW c)]) (fun _=>[]) (fun c=>l.length-c) (fun c=>c<=l.length) ?_ 0 (aev _);intro c S;apply aZ<;>intro I
  ·have d:c<l.length:=i▸ee I;obtain⟨B,H,h⟩:=w.get d;have j:=(ck b c).trans H;obtain⟨P,e,rfl⟩:=h;obtain⟨A,E,F,y,f7,rfl⟩:=e.cZ;refine bZ Z ?_;refine cc _ j ?_;refine cg v ?_;refine z l[c] (aet d) [.str l[c].n,.int .i64 (abK l[c].vr),.int .i64 (abK A),.str E,.str F,y,f7] ⟨_,e,Z⟩ (fun G s=>?_);apply aZ<;>intro x
   ·have n:G=true:=x;exact a8 0 ⟨Z,_,fun T=>absurd (s T) (by rw[n];decide),Z⟩
   ·exact⟨c+1,d,iK,.eP 0 [],Z,Z⟩
  ·exact a8 0 ⟨Z,false,fun _=>Z,Z⟩
theorem sd(e:Prop){l:List mM}(d:(C.ff.get m).isSome=true)(n:∀v∈l,∀o,HF v o->∀{σ:VS} {K:cO->VS->Prop},(∀b:Bool,(e->b=false)->K (.ret (bX b)) σ)->bV C ca m [.agg (o.map V.d)] σ K)(i:l.length<4294967296)(c:tG l r){σ:VS}{K:cO->VS->Prop}(h:∀b:Bool,(e->b=false)->K (.ret (bX b)) σ):bV C ca iI [.d r,.fn m [] []] σ K:=
 bV.closed (P:=ZY e) ((adj e d n i c).mono fun t p c=>⟨c.1,c.2.closed,c.2⟩) rfl (fun t ⟨b,j,s⟩=>by rw[s];exact h b j)
structure wE (x:jX):Prop where
 lo:ft x.lo
 up:ft x.up
 ty:ft x.ty
 ex:ej x.ex
 ps:∀p∈x.ps,ft p.b/\dX p.n=true
 pl:x.ps.length<4294967296
 flags:(x.wj=true->x.exp=true)/\(x.note≠[]->x.wj=true)
 kind:(x.k=0/\dX x.n=true/\x.ex=oe/\x.m=[]/\x.tg=[]/\∀p∈x.ps,p.b=cV/\p.vr<=2)∨(x.k=1/\cK x.n=true/\x.lo=cV/\x.up=cV/\x.m=[]/\x.tg=[]/\∀p∈x.ps,p.vr=0)∨(x.k=2/\x.ps=[]/\x.lo=cV/\x.up=cV/\x.ty=cV/\x.ex=oe/\cK x.m=true/\(cK x.n=true∨dX x.n=true)/\(cK x.tg=true∨dX x.tg=true))
theorem OR{p:mM}(i:HF p a){σ:VS}{K:cO->VS->Prop}(d:∀c:Bool,(p.b=cV->c=false)->K (.ret (bX c)) σ):bV C ca ww [.agg (a.map V.d)] σ K:=by
 obtain⟨j,b,rfl⟩:=i;have l:∀{σ:VS} {K:cO->VS->Prop},(∀c:Bool,(p.b=cV->c=true)->K (.ret (bX c)) σ)->bV C ca jU [.agg (j.map V.d)] σ K:=fun{σ} {K} d=>by
  by_cases n:p.b=cV
  ·rw[n]at b;exact sX b (d true fun _=>Z)
  ·exact zu b fun c=>d c fun h=>absurd h n
 obtain⟨v,o,s,t,f7,rfl⟩:=b.cZ;refine bV.closed (P:=ZY (p.b=cV)) ?_ Z (fun w ⟨c,e,h⟩=>by rw[h];exact d c e);refine cm ?_;refine l (fun c e=>?_);exact a8 0 ⟨Z,Z,_,fun h=>by rw[e h];rfl,Z⟩
theorem OS{p:mM}(d:HF p a){σ:VS}{K:cO->VS->Prop}(e:∀c:Bool,(p.vr<=2->c=false)->K (.ret (bX c)) σ):bV C ca wx [.agg (a.map V.d)] σ K:=by
 obtain⟨n,b,rfl⟩:=d;obtain⟨s,i,j,l,f7,rfl⟩:=b.cZ;refine bV.closed (P:=ZY (p.vr<=2)) ?_ Z (fun t ⟨c,h,o⟩=>by rw[o];exact e c h);refine cm ?_;exact a8 0 ⟨Z,Z,_,fun v=>decide_eq_false (by simp only[aeu];omega),Z⟩
theorem OT{p:mM}(d:HF p a){σ:VS}{K:cO->VS->Prop}(e:∀c:Bool,(p.vr=0->c=false)->K (.ret (bX c)) σ):bV C ca wy [.agg (a.map V.d)] σ K:=by
 obtain⟨o,b,rfl⟩:=d;obtain⟨t,i,j,n,f7,rfl⟩:=b.cZ;refine bV.closed (P:=ZY (p.vr=0)) ?_ Z (fun v ⟨c,h,s⟩=>by rw[s];exact e c h);refine cm ?_;exact a8 0 ⟨Z,Z,_,fun l=>by rw[l];rfl,Z⟩
theorem Xi{p:mM}(e:HF p a)(b:dX p.n=true){σ:VS}{K:cO->VS->Prop}(h:∀d:Bool,(True->d=false)->K (.ret (bX d)) σ):bV C ca yV [.agg (a.map V.d)] σ K:=by
 obtain⟨s,c,rfl⟩:=e;obtain⟨v,j,l,o,f7,rfl⟩:=c.cZ;refine bV.closed (P:=ZY True) ?_ Z (fun w ⟨d,i,t⟩=>by rw[t];exact h d i);have n:p.n.length<=32:=by
  simp only[dX,aeN,decide_eq_true_eq]at b;exact b.1.1.2
 refine cm ?_;refine ie p.n om ?_;exact a8 0 ⟨Z,Z,_,fun _=>by rw[b];rfl,Z⟩
theorem xU(j:je oe a){σ:VS}{K:cO->VS->Prop}(c:K (.ret (bX true)) σ):bV C ca yU [.agg (a.map V.d)] σ K:=by
 cases j with
 |mk h d b=>
  have e:=h.cS;subst e;rcases d.cS with rfl|⟨o,s,p,rfl⟩<;>rcases b.cS with rfl|⟨l,n,i,rfl⟩;all_goals
   refine cC ?_ Z Z c;exact Fa
theorem DQ{x:jX}{d:cH}(hd:rs x d)(i:wE x):bV C ca qP [.agg (d.map V.d)] [] fun t c=>c=[]/\t=.ret (bX true):=by
 obtain⟨ps,s,N,R,P,f1,O,v,F,Q,f2,E,w,A,H,f3,U,T,B,y,I,t4,J,d4,h1,h2,h3,h4,h5,rfl⟩:=eK hd;have e:=i.flags;have hkd:=i.kind;have hpl:=i.pl;have hz:∀{σ:VS} {K:cO->VS->Prop} {S:Ty} {G M L z D},S=cV->eZ S (eQ G M L z D)->K (.ret (bX true)) σ->bV C ca jU [.agg ((eQ G M L z D).map V.d)] σ K:=fun{σ K S G M L z D} X h hk=>sX (X▸h) hk;have j:bV C ca qP [.agg ((mR x.k x.n x.exp x.wj x.note ps (eQ s N R P f1) (eQ O v F Q f2) (eQ E w A H f3) [.int .i64 (abK U),.str T,.str B,.str y,.int .i64 I,t4,J,d4] x.m x.tg).map V.d)] [] fun t c=>c=[]/\t=.ret (bX true):=by
  refine cm ?_;have o:x.wj=false->x.note=[]:=fun h=>by
   by_cases n:x.note=[]
   ·exact n
   ·exact absurd (e.2 n) (by rw[h];decide)
  apply aZ<;>intro b
  ·have W:(!x.exp)=false:=by rw[e.1 b];rfl
   have l:(!x.wj)=false:=by rw[show x.wj=true from b];rfl
   repeat refine de ?_
   apply aZ<;>intro p
   ·exact Sa
   ·exact Sa
  ·have l:(!decide (x.note=[]))=false:=by rw[o b];rfl
   exact Sa
 exact j
def iL(b:jX):Bool:=if b.k=2 then(cK b.n&&cK b.tg)||(dX b.n&&dX b.tg)else true
theorem nJ{s:cq}(b:dX s=true):s.length<=32:=by
 simp only[dX,aeN,decide_eq_true_eq]at b;exact b.1.1.2
theorem nK{s:cq}(b:cK s=true):s.length<=32:=by
 simp only[cK,aeN,decide_eq_true_eq]at b;exact b.1.1.1.2
theorem HT{x:jX}(j:rs x a)(n:wE x):bV C ca Bz [.agg (a.map V.d)] [] fun F y=>y=[]/\F=.ret (bX (iL x)):=by
 obtain⟨L,E,U,g,Y,f1,X,G,N,f,f2,M,H,J,Q,f3,m,k,K,I,S,t4,T,d4,d,l,h3,h4,P,rfl⟩:=eK j;have t:=n.kind;have p:=n.pl;have z:=n.ps;refine cm ?_;refine sd True Z (fun R B a j {W r} c=>Xi j (z R B).2 c) p d (fun O s=>?_);have w:=s trivial;subst w;rcases t with⟨c,b,_⟩|⟨c,b,_⟩|⟨c,_,_,_,_,_,hm,b,v⟩
 ·have i:decide (abK x.k=0)=true:=by rw[c];rfl
  have hT:iL x=true:=by rw[iL,if_neg om]
  repeat refine de ?_
  refine ie x.n (by have:=nJ b;omega) ?_;exact a8 0 ⟨Z,by rw[b,hT];rfl⟩
 ·have i:decide (abK x.k=0)=false:=by rw[c];rfl
  have A:decide (abK x.k=1)=true:=by rw[c];rfl
  have hT:iL x=true:=by rw[iL,if_neg om]
  repeat refine de ?_
  refine ic x.n (by have:=nK b;omega) ?_;exact a8 0 ⟨Z,by rw[b,hT];rfl⟩
 ·have i:decide (abK x.k=0)=false:=by rw[c];rfl
  have A:decide (abK x.k=1)=false:=by rw[c];rfl
  have hT:iL x=((cK x.n&&cK x.tg)||(dX x.n&&dX x.tg)):=by rw[iL,if_pos c]
  have hln:x.n.length<4294967296:=b.elim (fun o=>by have:=nK o;omega) (fun o=>by have:=nJ o;omega);have Vo:x.tg.length<4294967296:=v.elim (fun o=>by have:=nK o;omega) (fun o=>by have:=nJ o;omega);repeat refine de ?_
  refine ic x.n hln ?_;have D:(!decide (x.m=[]))=true:=by
   have:x.m≠[]:=by rintro q;rw[q]at hm;revert hm;decide
   rw[decide_eq_false this];rfl
  apply aZ<;>intro d
  ·have h:cK x.n=true:=d;repeat refine de ?_
   refine ic x.tg Vo ?_;repeat refine de ?_
   apply aZ<;>intro l
   ·have e:cK x.tg=true:=l;have hT2:iL x=true:=by rw[hT,h,e];rfl
    repeat refine de ?_
    refine jf x.m (.inr hm) ?_;repeat refine de ?_
    exact a8 0 ⟨Z,by rw[hT2];rfl⟩
   ·have e:cK x.tg=false:=l;exact Yh
  ·have h:cK x.n=false:=d;exact Yh
def vq(c b:jX):Bool:=decide (b.n=c.n)
theorem KH{d0:cH}(x:rs f d0){i:List jX}(w:oh i g)(aE:i.length<4294967296)(b o c:Nat):bV C ca jb [.d (.ps b o 31 c g),.fn jC [] [.bp 0 0]] [.box (d0.map V.d)] fun aa z=>∃h,z=[.box h]/\cM aa=true/\fu 0 h=true/\(aa=.ret (bX (i.any (vq f)))/\h=d0.map V.d):=by
 have l:=w.len;obtain⟨B,S,P,K,J,f1,F,T,L,Q,f2,O,M,N,W,f3,R,G,U,H,I,t4,D,d4,v,aC,aA,aD,aB,rfl⟩:=eK x;have n:=qW 0 (mR f.k f.n f.exp f.wj f.note B (eQ S P K J f1) (eQ F T L Q f2) (eQ O M N W f3) [.int .i64 (abK R),.str G,.str U,.str H,.int .i64 I,t4,D,d4] f.m f.tg);refine cm ?_;refine cj ?_;refine cD (dB:=[(0,.d (.ps b o 31 c g)),(1,.fn jC [] [.bp 0 0]),(7,bW g.length),(8,bW 0)]) ?_;refine cd.iter (fun e:Nat=>[(0,.d (.ps b o 31 c g)),(1,.fn jC [] [.bp 0 0]),(7,bW g.length),(8,bW e)]) (fun _=>_) (fun e=>i.length-e) (fun e=>e<=i.length/\(i.take e).any (vq f)=false) ?_ 0 ⟨aev _,Z⟩;rintro e ⟨aF,p⟩;apply aZ<;>intro r
 ·have d:e<i.length:=l▸ee r;obtain⟨aG,E,j⟩:=w.get d;obtain⟨A,s⟩:∃A,A=i[e]:=⟨_,rfl⟩;have t:A∈i:=s▸aet d;rw[<-s]at j;obtain⟨ag,ar,am,Y,ao,aw,an,m,a,X,q,ab,aq,ap,ac,ax,au,u,ak,ay,ae,aj,ai,az,av,af,ah,al,ad,rfl⟩:=eK j;have y:=(ck g e).trans E;refine bZ Z ?_;refine cc _ y ?_;refine cj ?_;apply aZ<;>intro v
  ·refine a8 1 ⟨_,Z,Z,n,?_,Z⟩;rw[List.any_eq_true.2 ⟨A,t,v⟩];rfl
  ·refine⟨e+1,⟨d,?_⟩,iK,.eP 1 [0],Z,Z⟩;rw[aeM,abL d,List.any_append,p,<-s];simp only[Option.toList,List.any_cons,List.any_nil,Bool.or_false,Bool.false_or,vq];exact v
 ·have d:i.length<=e:=l▸dq r;rw[aeP d]at p;refine a8 1 ⟨_,Z,Z,n,?_,Z⟩;rw[p];rfl
theorem Na{l:jX}{d0:cH}(h:rs l d0){i:List jX}{d:List cH}(j:oh i d)(t:i.length<4294967296)(b o c p:Nat){σ:VS}{K:cO->VS->Prop}(e:nth σ p=some (.box (d0.map V.d)))(n:K (.ret (bX (i.any (vq l)))) σ):bV C ca jb [.d (.ps b o 31 c d),.fn jC [] [.bp p 0]] σ K:=
 bV.one (dM:=[.d (.ps b o 31 c d),.fn jC [] [.bp 0 0]]) (P:=fun w s=>w=.ret (bX (i.any (vq l)))/\s=d0.map V.d) (KH h j t b o c) p e (qW 0 d0) rfl rfl (fun w x ⟨y,v⟩=>by rw[y,v,u3 e];exact n)
end Go.Proofs.YtpejealjkmhkgaaGreatDoor
