/- Part of the proof. -/
import Derived.Test.YtdocmpeionacbaaGreatDoorKAl
set_option linter.all false
set_option maxHeartbeats 16000000
set_option maxRecDepth 100000
open Int renaming ofNat->ais,ofNat_eq_natCast->aiu
open Nat renaming zero_le->ait,le_refl->aiy,le_of_ble_eq_true->aiG,zero_add->aiL,not_lt_zero->ai2,beq->ai3,add_assoc->ai5,lt_or_ge->ai8,ble_eq_true_of_le->ai9
open List renaming take_of_length_le->aiv,getElem_mem->aiw,getElem?_eq_getElem->aix,length_append->aiz,length_nil->aiA,length_cons->aiB,length_map->aiC,take_add_one->aiD,map_append->aiE,length_take->aiF,mem_append->aiH,getElem?_map->aiI,mem_singleton->aiK,drop_zero->aiM,drop_eq_getElem_cons->aiN,append_assoc->aiO,drop_of_length_le->aiQ,take_append_drop->aiR,length_singleton->aiS,map->aiT,takeWhile_cons->aiU,mem_map_of_mem->aiV,take->aiW,mem_cons->aiX,drop->aiY,eq_nil_of_length_eq_zero->ai1,append_nil->ai4,getLast->aja,getElem?_eq_none->ajb,length_dropLast->ajd,length_pos_iff->aje,getElem_of_mem->ajf,length->j'
open Bool renaming and_eq_true->aiJ,and_true->aiZ,true_or->ai0,true_and->ai6,false_or->ai7,or_true->ajc,true->A',false->B'
open And renaming intro->aiP
open Option renaming some->q'
namespace Go.Proofs.YtdocmpeionacbaaGreatDoor
open Go.AM Go.VM
def ez{a:jj}{A:cP}(h:ot a A):∃i b o s q f1 p c k r f2 j d f l f3 u t g e m t4 n d4,nB a.ps i/\fF a.lo (fY b o s q f1)/\fF a.up (fY p c k r f2)/\fF a.ty (fY j d f l f3)/\iz a.ex [.int .i64 (ais u),.str t,.str g,.str e,.int .i64 m,t4,n,d4]/\A=qT a.k a.n a.exp a.B3 a.note i (fY b o s q f1) (fY p c k r f2) (fY j d f l f3) [.int .i64 (ais u),.str t,.str g,.str e,.int .i64 m,t4,n,d4] a.m a.tg:=by
 obtain⟨i,E,D,C,B,z,v,y,w,x,rfl⟩:=h;obtain⟨b,o,s,q,f1,rfl⟩:=v.dL;obtain⟨p,c,k,r,f2,rfl⟩:=y.dL;obtain⟨j,d,f,l,f3,rfl⟩:=w.dL;obtain⟨u,t,g,e,m,t4,n,d4,rfl⟩:=x.eight;exact⟨i,b,o,s,q,f1,p,c,k,r,f2,j,d,f,l,f3,u,t,g,e,m,t4,n,d4,z,v,y,w,x,Z⟩
def BR(a:jj)(w:cP)(i:ot a w)(I:cM a.lo<4294967295/\cM a.up<4294967295):b7 C cm wV [.agg (w.map V.d)] [] λx d=>d=[]/\N1 (a.lo=a.up/\a.up=a.ty) x:=by
 obtain⟨A,j,s,u,t,f1,f,b,h,g,f2,o,l,n,q,f3,B,J,z,y,F,t4,G,d4,D,k,c,p,E,rfl⟩:=ez i;refine cD ?_;refine UL (cM a.lo) om a.lo a.up (fY j s u t f1) (fY f b h g f2) (aiy _) k c (λH m=>?_);cases H with
 |true=>
  refine UL (cM a.up) om a.up a.ty (fY f b h g f2) (fY o l n q f3) (aiy _) c p (λr e=>?_);exact a8 0 ⟨Z,r,λv=>e v.2,Z⟩
 |false=>
  exact a8 0 ⟨Z,iQ λv=>Y' (m v.1) dc⟩
def oy:n_ ny->Nat
 |[]=>0
 |p::a=>cM p.b+oy a
theorem BS(a c:n_ ny):oy (a++c)=oy a+oy c:=by
 induction a with
 |nil=>simp[oy]
 |cons d a b=>simp only[List.cons_append,oy,b];omega
open Classical in
noncomputable def jf(a:jj):Nat:=1+j' a.ps+(if a.k=0 then cM a.ty+(if a.lo=a.up/\a.up=a.ty then 0 else cM a.lo+cM a.up)else if a.k=1 then cM a.ty+dm a.ex+oy a.ps else 0)
noncomputable def jg(a:n_ jj):Nat:=(a.map jf).sum
noncomputable def D7(a:Da):Nat:=1+j' a.is+jg a.ds
theorem Ha(a b:n_ jj):jg (a++b)=jg a+jg b:=by simp[jg]
theorem xy(a:n_ jj):j' a<=jg a:=by
 induction a with
 |nil=>simp[jg]
 |cons c a b=>
  grind [jg,jf,aiB]
theorem Ly{a:n_ ny}{b:Nat}(h:b<j' a):oy (a.take (b+1))=oy (a.take b)+cM a[b].b:=by
 grind [aiD,BS,oy]
theorem Fb(a:n_ ny)(b:Nat):oy (a.take b)<=oy a:=by
 grind [aiR,BS]
theorem Lz{a:n_ jj}{b:Nat}(h:b<j' a):jg (a.take (b+1))=jg (a.take b)+jf a[b]:=by
 grind [aiD,Ha,jg]
theorem Fc(a:n_ jj)(b:Nat):jg (a.take b)<=jg a:=by
 grind [aiR,Ha]
theorem oD.get{l:n_ jj}{els:n_ cP}(h:oD l els){i:Nat}(hi:i<j' l):∃d,els[i]?=q' d/\ot l[i] d:=by
 exact tp
theorem rS.get{l:n_ ny}{els:n_ cP}(h:rS l els){i:Nat}(hi:i<j' l):∃d,els[i]?=q' d/\M9 l[i] d:=by
 exact tp
def wr0{a b:Nat}(h:a<4611686018427387904)(c:a=b):IntKind.i64.wrap (1+ais a)=ais (1+b):=by
 subst c;exact dk (a:=1) om
def wr1{a b:Nat}(h:a+b<4611686018427387904):IntKind.i64.wrap (ais a+IntKind.i64.wrap (1+ais b))=ais (a+(1+b)):=by
 rw[wr0 om rfl,dk om]
def BT(a:jj):1+j' a.ps<=jf a:=by rw[jf];omega
theorem Qq{a:jj}(b:a.k=0)(h:a.lo=a.up/\a.up=a.ty):jf a=1+j' a.ps+cM a.ty:=by rw[jf,X' b,X' h];omega
def Hb{a:jj}(b:a.k=0)(h:¬(a.lo=a.up/\a.up=a.ty)):jf a=1+j' a.ps+(cM a.ty+(cM a.lo+cM a.up)):=by rw[jf,X' b,W' h]
theorem yA{a:jj}(b:a.k=1):jf a=1+j' a.ps+(cM a.ty+dm a.ex+oy a.ps):=by rw[jf,W' om,X' b]
def Dp{a:jj}(b:a.k=0):1+j' a.ps+cM a.ty<=jf a/\cM a.lo<=jf a/\cM a.up<=jf a:=by
 by_cases h:a.lo=a.up/\a.up=a.ty
 ·rw[Qq b h,h.1,h.2];omega
 rw[Hb b h];omega
def agX(c e d:Nat)(a:n_ cP)(b:Nat×Nat):Tm:=[(3,cl b.2),(13,.d (.ps c e 31 d a)),(14,cl (j' a)),(15,cl b.1)]
def inT(g i h:Nat)(a:n_ cP)(j d e c:Nat)(b:n_ cP)(f:Nat×Nat):Tm:=[(3,cl f.2),(13,.d (.ps g i 31 h a)),(14,cl (j' a)),(15,cl j),(58,.d (.ps d e 7 c b)),(59,cl (j' b)),(60,cl f.1)]
def Qr(N:Da)(aB:cP)(aK:xj N aB)(aQ:D7 N<1073741824)(H:∀x∈N.ds,x.k=1->fN x.ex):b7 C cm qs [.agg (aB.map V.d)] [] λX G=>G=[]/\∃n,n<=D7 N/\X=.ret (cl n):=by
 obtain⟨p,af,hi,o,rfl⟩:=aK;have ao:∃aq,aq=j' N.is:=⟨_,rfl⟩;have⟨bk,oz,nK⟩:=N;have aS:1+j' oz+jg nK<1073741824:=aQ;have H:∀x∈nK,x.k=1->fN x.ex:=H;have aT:=xy nK;have hi:sN oz p:=hi;have o:ul nK af:=o;have b:∃L:Nat,L=j' oz/\((p=.cu/\L=0)∨∃t v z,p=.ps t v 2 z (oz.map fT)):=by
  exact Kw
 clear hi;have⟨L,hL,hi⟩:=b;have hw1:∀am,am=L->IntKind.i64.wrap (1+ais am)=ais (1+L):=λam u=>wr0 om u;rcases hi with⟨rfl,hL0⟩|⟨bn,ba,be,rfl⟩;all_goals
  refine cD ?_;cases o with
  |nil=>
   exact Jh
  |ps h an=>
   rename_i t v z c;have N4:=h.len;refine ck.less (fx:=agX t v z c (0,1+L)) ⟨by first|exact int_eq (hw1 0 hL0.symm)|exact int_eq (hw1 _ (by rw[aiC];exact hL.symm)),Z,Z,Z,tv⟩ ?_;refine ck.iter (agX t v z c) (λ_=>_) (λx=>j' nK-x.1) (λx=>x.1<=j' nK/\x.2<=1+L+jg (nK.take x.1)) ?_ (0,1+L) ⟨ait _,Nat.le_add_right _ _⟩;rintro⟨j,n⟩ ⟨M,K⟩;have bf:j<=j' nK:=M;have hnj:n<=1+L+jg (nK.take j):=K;have aV:=Fc nK j;apply aZ<;>intro hc
   ·have nH:j<j' nK:=N4▸eK hc;have T:=Lz nH;have ap:=Fc nK (j+1);have⟨aB,aw,i⟩:=h.get nH;obtain⟨x,A⟩:∃x,x=nK[j]:=⟨_,rfl⟩;have ag:x.k=1->fN x.ex:=by rw[A];exact H _ (aiw nH)
    rw[<-A]at i T;obtain⟨ps,aL,aI,aE,aD,f1,ax,aM,aF,aJ,f2,ab,Y,aa,ai,f3,bo,bg,bp,bh,bj,t4,bc,d4,h1,aG,av,ac,aA,rfl⟩:=ez i;have aj:=(cx c j).trans aw;have l:∃a:Nat,a=j' x.ps/\((ps=.cu/\a=0)∨∃t v z d,ps=.ps t v 7 z d/\rS x.ps d/\j' d=a):=by
     exact Cg
    obtain⟨a,I,l⟩:=l;have aX:a<1073741824:=by
     have:=BT x;omega
    have e:∀w,w=a->IntKind.i64.wrap (ais n+IntKind.i64.wrap (1+ais w))=ais (n+(1+a)):=λw u=>by
     subst u;exact wr1 om
    refine bZ Z ?_;refine cp _ aj ?_;rcases l with⟨rfl,f⟩|⟨ak,U,S,d,rfl,E,g⟩;all_goals
     apply aZ<;>intro az
     ·have B:x.k=0:=Dw (b:=0) az;have⟨ae,aW,aR⟩:=Dp B;rw[<-I]at ae;refine pz x.ty (fY ab Y aa ai f3) ac om ?_;refine b7.closed (P:=λX=>N1 (x.lo=x.up/\x.up=x.ty) X) ((BR x _ i ⟨om,om⟩).mono λX G h=>⟨h.1,by have⟨aN,_,u⟩:=h.2;rw[u];try rfl,h.2⟩) Z (λX aP=>?_);obtain⟨bl,Q,rfl⟩:=aP;apply aZ<;>intro P
      ·have R:¬(x.lo=x.up/\x.up=x.ty):=λu=>by rw[Q u]at P;cases P
       have r:=Hb B R;rw[<-I]at r;refine cy ?_;refine pz x.lo (fY aL aI aE aD f1) aG om ?_;refine cy ?_;refine pz x.up (fY ax aM aF aJ f2) av om ?_;refine cy ?_;exact⟨(j+1,n+(1+a)+cM x.ty+(cM x.lo+cM x.up)),⟨nH,by show _<=1+L+jg (nK.take (j+1));omega⟩,ik,.pick 0 [0] ⟨int_eq (by rw[e _ (by first|exact f.symm|exact g),dk om,dk om,dk om]),Z,Z,int_eq (cF om),tv⟩ Z Z Z Z Z dc ⟨Z,Z,tv⟩,Z,Z⟩
      exact⟨(j+1,n+(1+a)+cM x.ty),⟨nH,by show _<=1+L+jg (nK.take (j+1));omega⟩,ik,.pick 0 [0] ⟨int_eq (by rw[e _ (by first|exact f.symm|exact g),dk om]),Z,Z,int_eq (cF om),tv⟩ Z Z Z Z Z dc ⟨Z,Z,tv⟩,Z,Z⟩
     apply aZ<;>intro ah
     ·have s:x.k=1:=Dw (b:=1) ah;have r:=yA s;rw[<-I]at r;refine cy ?_;refine pz x.ty (fY ab Y aa ai f3) ac om ?_;refine cy ?_;refine G7 x.ex _ aA (ag s) om ?_;refine cy ?_;have F:∀w,w=a->IntKind.i64.wrap (IntKind.i64.wrap (ais n+IntKind.i64.wrap (1+ais w))+IntKind.i64.wrap (ais (cM x.ty)+ais (dm x.ex)))=ais (n+(1+a)+(cM x.ty+dm x.ex)):=λw u=>by
       rw[e w u,dk om,dk om]
      first
       |refine ck.loop ?_
        exact⟨(j+1,n+(1+a)+(cM x.ty+dm x.ex)),⟨nH,by show _<=1+L+jg (nK.take (j+1));omega⟩,ik,.pick 0 [0] ⟨int_eq (F _ f.symm),Z,Z,int_eq (cF om),tv⟩ Z Z Z Z Z dc ⟨Z,Z,tv⟩,Z,Z⟩
       |refine ck.less (fx:=inT t v z c j ak U S d (0,n+(1+a)+(cM x.ty+dm x.ex))) ⟨int_eq (F _ g),rfl,rfl,rfl,rfl,rfl,rfl,tv⟩ ?_
        refine ck.iter (inT t v z c j ak U S d) (λ_=>_) (λad=>j' x.ps-ad.1) (λad=>ad.1<=j' x.ps/\ad.2=n+(1+a)+(cM x.ty+dm x.ex)+oy (x.ps.take ad.1)) ?_ (0,n+(1+a)+(cM x.ty+dm x.ex)) ⟨ait _,Z⟩;rintro⟨m,q⟩ ⟨M,K⟩;have hi:m<=j' x.ps:=M;have aY:q=n+(1+a)+(cM x.ty+dm x.ex)+oy (x.ps.take m):=K;have aO:=Fb x.ps m;have J:=E.len;apply aZ<;>intro W
        ·have b:m<j' x.ps:=J▸eK W;have aU:=Ly b;have aH:=Fb x.ps (m+1);obtain⟨bm,aC,aN,y,rfl⟩:=E.get b;obtain⟨ay,ar,au,al,f7,rfl⟩:=y.dL;have O:=(cx d m).trans aC;refine bZ Z ?_;refine cp _ O ?_;refine pz x.ps[m].b (fY ay ar au al f7) y om ?_;exact⟨(m+1,q+cM x.ps[m].b),⟨b,by show q+cM x.ps[m].b=_+oy (x.ps.take (m+1));omega⟩,ik,.pick 0 [0,1] ⟨int_eq (dk om),Z,Z,Z,Z,Z,int_eq (cF om),tv⟩ Z Z Z Z Z dc ⟨Z,Z,Z,Z,tv⟩,Z,Z⟩
        exact⟨(j+1,q),⟨nH,by show q<=1+L+jg (nK.take (j+1));omega⟩,ik,.eP 0 [0],Z,Z⟩
     exact⟨(j+1,n+(1+a)),⟨nH,by show _<=1+L+jg (nK.take (j+1));have:=BT x;omega⟩,ik,.pick 0 [0] ⟨int_eq (by rw[e _ (by first|exact f.symm|exact g)]),Z,Z,int_eq (cF om),tv⟩ Z Z Z Z Z dc ⟨Z,Z,tv⟩,Z,Z⟩
   exact JN
def pK(b a:ux):Bool:=decide (a.p=b.p)||decide (a.a=b.a)
def jC(a:cC):n_ ux->n_ ux->Nat
 |_,[]=>0
 |done,b::c=>if b.p=a then 14 else if done.any (pK b)then 5 else jC a (done++[b]) c
def oF(a:Da):Nat:=if 16<j' a.is∨64<j' a.ds then 7 else jC a.p [] a.is
def Qs(d:ux)(a:n_ ux)(t:j' a<4294967296)(p q r:Nat):b7 C cm jw [.d (.ps p q 2 r (a.map fT)),.fn mE [] [.bp 0 0]] [.box [cv d.p,cv d.a]] λo l=>∃e,l=[.box e]/\da o=A'/\hP 0 e=A'/\(o=.ret (cj (a.any (pK d)))/\e=[cv d.p,cv d.a]):=by
 have f:j' (a.map fT)=j' a:=aiC _;refine cD ?_;refine cA ?_;refine ck.iter (λc:Nat=>[(0,.d (.ps p q 2 r (a.map fT))),(1,.fn mE [] [.bp 0 0]),(7,cl (j' (a.map fT))),(8,cl c)]) (λ_=>[.box [cv d.p,cv d.a]]) (λc=>j' a-c) (λc=>c<=j' a/\(a.take c).any (pK d)=B') ?_ 0 ⟨ait _,Z⟩;rintro c ⟨s,i⟩;apply aZ<;>intro h
 ·have b:c<j' a:=f▸eK h;have n:nth (a.map fT) c=q' (fT a[c]):=by rw[cx,aiI,aix b];try rfl
  refine bZ Z ?_;refine cp _ n ?_;refine cA ?_;have g:pK d a[c]=A'->a.any (pK d)=A':=λh=>List.any_eq_true.2 ⟨_,aiw b,h⟩;apply aZ<;>intro m
  ·refine cN ?_;refine a8 1 ⟨_,Z,Z,Z,?_,Z⟩;rw[g (by simp only[pK,show decide (a[c].p=d.p)=A' from m,ai0])];rfl
  refine cN ?_;apply aZ<;>intro j
  ·refine a8 1 ⟨_,Z,Z,Z,?_,Z⟩;rw[g (by simp only[pK,show decide (a[c].a=d.a)=A' from j,ajc])];rfl
  refine⟨c+1,⟨b,?_⟩,ik,.eP 1 [0],Z,Z⟩;rw[aiD,aix b,List.any_append,i];simp only[Option.toList,List.any_cons,List.any_nil,Bool.or_false,ai7,pK,show decide (a[c].p=d.p)=B' from m,show decide (a[c].a=d.a)=B' from j]
 have b:j' a<=c:=f▸dK h;rw[aiv b]at i;refine a8 1 ⟨_,Z,Z,Z,?_,Z⟩;rw[i];try rfl
def Re(c:ux)(e:n_ ux){a:n_ cP}(m:a=e.map fT)(j:j' e<4294967296)(l g o n:Nat){d:VS}{p:dt->VS->Prop}(b:nth d n=q' (.box [cv c.p,cv c.a]))(h:p (.ret (cj (e.any (pK c)))) d):b7 C cm jw [.d (.ps l g 2 o a),.fn mE [] [.bp n 0]] d p:=by
 subst m;exact b7.one (fk:=[.d (.ps l g 2 o (e.map fT)),.fn mE [] [.bp 0 0]]) (P:=λq i=>q=.ret (cj (e.any (pK c)))/\i=[cv c.p,cv c.a]) (Qs c e j l g o) n b Z Z Z λq r ⟨s,k⟩=>by rw[s,k,rM b];exact h
def Tc(p:Da)(J:cP)(u:xj p J)(L:D7 p<=4096)(K:∀l∈p.ds,l.k=1->fN l.ex)(A:fQ p.p=A')(x:∀l∈p.is,fQ l.p=A'/\c8 l.a=A'):b7 C cm Ic [.agg (J.map V.d)] [] λv q=>q=[]/\v=.ret (cl (oF p)):=by
 have w:=Qr p J u om K;have adN:∀s,fQ s=A'->j' s<=64:=λs h=>by
  simp only[fQ,aiJ,j_]at h;exact h.2.1
 obtain⟨e,f,hi,d,rfl⟩:=u;have⟨mp,oz,nK⟩:=p;have hi':(e=.cu/\oz=[])∨∃b o c,j' oz<=c/\e=.ps b o 2 c (oz.map fT):=by
  revert hi;intro hi;have hi:sN oz e:=hi;cases hi with
  |nil=>exact .inl ⟨rfl,rfl⟩
  |ps M=>exact .inr ⟨_,_,_,M,rfl⟩
 have a:(f=.cu/\nK=[])∨∃b o c els,f=.ps b o 31 c els/\j' els=j' nK:=by
  have d:ul nK f:=d;cases d with
  |nil=>exact .inl ⟨rfl,rfl⟩
  |ps h _=>exact .inr ⟨_,_,_,_,rfl,h.len⟩
 have hH:oF ⟨mp,oz,nK⟩=if 16<j' oz∨64<j' nK then 7 else jC mp [] oz:=rfl
 have Q:j' oz<4096:=by have:1+j' oz+jg nK<=4096:=L;omega
 clear hi d;have O:j' mp<=64:=adN mp A;have hp':fQ mp=A':=A;have ahm:∀l∈oz,fQ l.p=A'/\c8 l.a=A':=x;have afW:∀{r:VS} {F:dt->VS->Prop},(∀n,n<=4096->F (.ret (cl n)) r)->b7 C cm qs [.agg ([D.str mp,e,f].map V.d)] r F:=fun{r} {F} H=>
  b7.closed (P:=λv=>∃n,n<=4096/\v=.ret (cl n)) (w.mono λv q h=>⟨h.1,by have⟨n,_,t⟩:=h.2;rw[t];try rfl,by have⟨n,P,t⟩:=h.2;exact⟨n,om,t⟩⟩) rfl (λv ⟨n,P,t⟩=>by rw[t];exact H n P)
 have m:∀N:n_ cP,j' N=j' nK->¬64<j' nK->decide (64<ais (j' N))=B':=λN t h=>by rw[t];exact Z' (by simp only[aiu];omega)
 have z:¬16<j' oz->decide (16<ais (j' (oz.map fT)))=B':=λh=>by rw[aiC];exact Z' (by simp only[aiu];omega)
 rcases hi' with⟨rfl,hmi⟩|⟨b,o,c,I,rfl⟩
 ·have j:¬16<j' oz:=by rw[hmi];decide
  rcases a with⟨rfl,g⟩|⟨E,y,B,els,rfl,N4⟩
  ·have h64:¬64<j' nK:=by rw[g];decide
   exact I3
  by_cases h64:64<j' nK
  ·exact Jb
  have N5:=m els N4 h64;exact I3
 by_cases j:16<j' oz
 ·have G:decide (16<ais (j' (oz.map fT)))=A':=by rw[aiC];exact a_ (by simp only[aiu];omega)
  rcases a with⟨rfl,g⟩|⟨E,y,B,els,rfl,N4⟩;all_goals
   refine cD ?_;refine nc mp om ?_;refine a7 (by rw[hp'];try rfl) ?_;refine cN ?_;exact a8 0 ⟨Z,by rw[hH,X' (.inl j)];try rfl⟩
 have G:=z j;rcases a with⟨rfl,g⟩|⟨E,y,B,els,rfl,N4⟩
 ·have h64:¬64<j' nK:=by rw[g];decide
  exact II
 by_cases h64:64<j' nK
 ·exact Jb
 have N5:=m els N4 h64;exact II
def IfN(b:Prop)(c:dt):Prop:=∃a:Bool,(b->a=B')/\c=.ret (cj a)
def IfN.closed{b:Prop}{a:dt}(h:IfN b a):da a=A':=by have⟨d,_,c⟩:=h;rw[c];try rfl
def agY(A:Prop){d:n_ ny}{o:FuncId}(n:(C.ff.get o).isSome=A')(s:∀H∈d,∀u,M9 H u->∀{m:VS} {B:dt->VS->Prop},(∀p:Bool,(A->p=B')->B (.ret (cj p)) m)->b7 C cm o [.agg (u.map V.d)] m B)(I:j' d<4294967296){ps:D}(h:nB d ps):b7 C cm jM [.d ps,.fn o [] []] [] λE k=>k=[]/\IfN A E:=by
 refine cD ?_;refine cA ?_;cases h with
 |nil=>
  refine ck.loop ?_;exact a8 0 ⟨Z,B',λ_=>Z,Z⟩
 |ps h=>
  rename_i p G L c;have g:=h.len;refine ck.iter (λa:Nat=>[(0,.d (.ps p G 7 L c)),(1,.fn o [] []),(7,cl (j' c)),(8,cl a)]) (λ_=>[]) (λa=>j' d-a) (λa=>a<=j' d) ?_ 0 (ait _);intro a J;apply aZ<;>intro z
  ·have b:a<j' d:=g▸eK z;have⟨u,y,f⟩:=h.get b;have i:=(cx c a).trans y;obtain⟨F,e,rfl⟩:=f;obtain⟨t,v,w,r,f7,rfl⟩:=e.dL;refine bZ Z ?_;refine cp _ i ?_;refine b9 n ?_;refine s d[a] (aiw b) [.str d[a].n,.int .i64 (ais d[a].vr),.int .i64 (ais t),.str v,.str w,r,f7] ⟨_,e,Z⟩ (λx l=>?_);apply aZ<;>intro q
   ·have j:x=A':=q;exact a8 0 ⟨Z,_,λK=>Y' (l K) (by rw[j];decide),Z⟩
   exact⟨a+1,b,ik,.eP 0 [],Z,Z⟩
  exact a8 0 ⟨Z,B',λ_=>Z,Z⟩
def uy(f:Prop){m:n_ ny}{l:FuncId}(e:(C.ff.get l).isSome=A')(j:∀q∈m,∀n,M9 q n->∀{a:VS} {c:dt->VS->Prop},(∀b:Bool,(f->b=B')->c (.ret (cj b)) a)->b7 C cm l [.agg (n.map V.d)] a c)(g:j' m<4294967296){d:D}(h:nB m d){a:VS}{c:dt->VS->Prop}(k:∀b:Bool,(f->b=B')->c (.ret (cj b)) a):b7 C cm jM [.d d,.fn l [] []] a c:=
 b7.closed (P:=IfN f) ((agY f e j g h).mono λp o h=>⟨h.1,h.2.closed,h.2⟩) rfl (λp ⟨b,i,r⟩=>by rw[r];exact k b i)
structure vp (x:jj):Prop where
 lo:hO x.lo
 up:hO x.up
 ty:hO x.ty
 ex:fN x.ex
 ps:∀p∈x.ps,hO p.b/\eC p.n=A'
 pl:j' x.ps<4294967296
 flags:(x.B3=A'->x.exp=A')/\(x.note≠[]->x.B3=A')
 kind:(x.k=0/\eC x.n=A'/\x.ex=mw/\x.m=[]/\x.tg=[]/\∀p∈x.ps,p.b=cY/\p.vr<=2)∨(x.k=1/\c8 x.n=A'/\x.lo=cY/\x.up=cY/\x.m=[]/\x.tg=[]/\∀p∈x.ps,p.vr=0)∨(x.k=2/\x.ps=[]/\x.lo=cY/\x.up=cY/\x.ty=cY/\x.ex=mw/\c8 x.m=A'/\(c8 x.n=A'∨eC x.n=A')/\(c8 x.tg=A'∨eC x.tg=A'))
def U8{g:ny}{m:cP}(j:M9 g m){b:VS}{f:dt->VS->Prop}(d:∀c:Bool,(g.b=cY->c=B')->f (.ret (cj c)) b):b7 C cm yP [.agg (m.map V.d)] b f:=by
 obtain⟨k,a,rfl⟩:=j;have l:∀{b:VS} {f:dt->VS->Prop},(∀c:Bool,(g.b=cY->c=A')->f (.ret (cj c)) b)->b7 C cm lf [.agg (k.map V.d)] b f:=fun{b} {f} d=>by
  by_cases h:g.b=cY
  ·rw[h]at a;exact vk a (d A' λ_=>Z)
  exact BM a λc=>d c λi=>Y' i h
 obtain⟨q,n,o,p,f7,rfl⟩:=a.dL;refine b7.closed (P:=IfN (g.b=cY)) ?_ Z (λr ⟨c,e,i⟩=>by rw[i];exact d c e);refine cD ?_;refine l (λc e=>?_);exact a8 0 ⟨Z,Z,_,λi=>by rw[e i];try rfl,Z⟩
def U9{g:ny}{i:cP}(d:M9 g i){b:VS}{j:dt->VS->Prop}(e:∀c:Bool,(g.vr<=2->c=B')->j (.ret (cj c)) b):b7 C cm yQ [.agg (i.map V.d)] b j:=by
 obtain⟨n,a,rfl⟩:=d;obtain⟨p,k,l,m,f7,rfl⟩:=a.dL;refine b7.closed (P:=IfN (g.vr<=2)) ?_ Z (λq ⟨c,f,o⟩=>by rw[o];exact e c f);refine cD ?_;exact a8 0 ⟨Z,Z,_,λh=>Z' (by simp only[aiu];omega),Z⟩
def Va{g:ny}{i:cP}(d:M9 g i){b:VS}{j:dt->VS->Prop}(e:∀c:Bool,(g.vr=0->c=B')->j (.ret (cj c)) b):b7 C cm yR [.agg (i.map V.d)] b j:=by
 obtain⟨n,a,rfl⟩:=d;obtain⟨p,k,l,m,f7,rfl⟩:=a.dL;refine b7.closed (P:=IfN (g.vr=0)) ?_ Z (λq ⟨c,f,o⟩=>by rw[o];exact e c f);refine cD ?_;exact a8 0 ⟨Z,Z,_,λh=>by rw[h];try rfl,Z⟩
def ac7{d:ny}{j:cP}(f:M9 d j)(a:eC d.n=A'){c:VS}{i:dt->VS->Prop}(h:∀e:Bool,(True->e=B')->i (.ret (cj e)) c):b7 C cm Bi [.agg (j.map V.d)] c i:=by
 obtain⟨l,b,rfl⟩:=f;obtain⟨m,n,o,k,f7,rfl⟩:=b.dL;refine b7.closed (P:=IfN True) ?_ Z (λr ⟨e,g,q⟩=>by rw[q];exact h e g);have p:j' d.n<=32:=by
  simp only[eC,aiJ,j_]at a;exact a.1.1.2
 refine cD ?_;refine ng d.n om ?_;exact a8 0 ⟨Z,Z,_,λ_=>by rw[a];try rfl,Z⟩
def Ah{g:cP}(h:iz mw g){b:VS}{i:dt->VS->Prop}(c:i (.ret (cj A')) b):b7 C cm Bh [.agg (g.map V.d)] b i:=by
 cases h with
 |mk f d a=>
  have e:=f.dB;subst e;rcases d.dB with rfl|⟨m,o,n,rfl⟩<;>rcases a.dB with rfl|⟨k,l,j,rfl⟩;all_goals
   refine cI ?_ Z Z c;exact lP
theorem Hc{x:jj}{d:cP}(hd:ot x d)(f:vp x):b7 C cm sC [.agg (d.map V.d)] [] λn e=>e=[]/\n=.ret (cj A'):=by
 obtain⟨ps,m,H,M,J,f1,I,r,A,L,f2,z,s,v,B,f3,P,O,w,t,D,t4,E,d4,h1,h2,h3,h4,h5,rfl⟩:=ez hd;have g:=f.flags;have hkd:=f.kind;have hpl:=f.pl;have hz:∀{σ:VS} {K:dt->VS->Prop} {N:Ty} {k G F u y},N=cY->fF N (fY k G F u y)->K (.ret (cj A')) σ->b7 C cm lf [.agg ((fY k G F u y).map V.d)] σ K:=fun{σ K N k G F u y} R h hk=>vk (R▸h) hk;have key:b7 C cm sC [.agg ((qT x.k x.n x.exp x.B3 x.note ps (fY m H M J f1) (fY I r A L f2) (fY z s v B f3) [.int .i64 (ais P),.str O,.str w,.str t,.int .i64 D,t4,E,d4] x.m x.tg).map V.d)] [] λn e=>e=[]/\n=.ret (cj A'):=by
  refine cD ?_;have j:x.B3=B'->x.note=[]:=λh=>by
   all_goals grind
  apply aZ<;>intro a
  ·have Q:(!x.exp)=B':=by rw[g.1 a];try rfl
   have i:(!x.B3)=B':=by rw[show x.B3=A' from a];try rfl
   refine cN ?_;apply aZ<;>intro l
   ·exact B4
   exact B4
  have i:(!decide (x.note=[]))=B':=by rw[j a];try rfl
  exact B4
 exact key
def iv(a:jj):Bool:=if a.k=2 then(c8 a.n&&c8 a.tg)||(eC a.n&&eC a.tg)else A'
theorem rb{a:cC}(h:eC a=A'):j' a<=32:=by
 simp only[eC,aiJ,j_]at h;exact h.1.1.2
theorem re{a:cC}(h:c8 a=A'):j' a<=32:=by
 simp only[c8,aiJ,j_]at h;exact h.1.1.1.2
def Nu{x:jj}{s:cP}(f:ot x s)(i:vp x):b7 C cm Em [.agg (s.map V.d)] [] λw p=>p=[]/\w=.ret (cj (iv x)):=by
 obtain⟨E,v,N,S,Q,f1,P,y,G,R,f2,F,z,B,J,f3,U,T,D,A,L,t4,M,d4,b,g,h3,h4,I,rfl⟩:=ez f;have m:=i.kind;have j:=i.pl;have q:=i.ps;refine cD ?_;refine uy True Z (λK t s f {O X} a=>ac7 f (q K t).2 a) j b (λH l=>?_);have o:=l trivial;subst o;rcases m with⟨a,lj,_⟩|⟨a,lj,_⟩|⟨a,_,_,_,_,_,hm,lj,n⟩
 ·have e:decide (ais x.k=0)=A':=by rw[a];try rfl
  have hT:iv x=A':=by rw[iv,W' om]
  refine cN ?_;refine ng x.n (by have:=rb lj;omega) ?_;exact a8 0 ⟨Z,by rw[lj,hT];try rfl⟩
 ·have e:decide (ais x.k=0)=B':=by rw[a];try rfl
  have r:decide (ais x.k=1)=A':=by rw[a];try rfl
  have hT:iv x=A':=by rw[iv,W' om]
  refine cN ?_;refine jo x.n (by have:=re lj;omega) ?_;exact a8 0 ⟨Z,by rw[lj,hT];try rfl⟩
 have e:decide (ais x.k=0)=B':=by rw[a];try rfl
 have r:decide (ais x.k=1)=B':=by rw[a];try rfl
 have hT:iv x=((c8 x.n&&c8 x.tg)||(eC x.n&&eC x.tg)):=by rw[iv,X' a]
 have hln:j' x.n<4294967296:=lj.elim (λh=>by have:=re h;omega) (λh=>by have:=rb h;omega);have hlt:j' x.tg<4294967296:=n.elim (λh=>by have:=re h;omega) (λh=>by have:=rb h;omega);refine cN ?_;refine jo x.n hln ?_;have u:(!decide (x.m=[]))=A':=by
  have:x.m≠[]:=by rintro W;rw[W]at hm;revert hm;decide
  rw[Z' this];try rfl
 apply aZ<;>intro b
 ·have d:c8 x.n=A':=b;refine cN ?_;refine jo x.tg hlt ?_;refine cN ?_;apply aZ<;>intro g
  ·have c:c8 x.tg=A':=g;have hT2:iv x=A':=by rw[hT,d,c];try rfl
   refine cN ?_;refine nh x.m (.inr hm) ?_;refine cN ?_;exact a8 0 ⟨Z,by rw[hT2];try rfl⟩
  have c:c8 x.tg=B':=g;exact IQ
 have d:c8 x.n=B':=b;exact IQ
def sT(b a:jj):Bool:=decide (a.n=b.n)
def Qt{f:jj}{d0:cP}(p:ot f d0){e:n_ jj}{b:n_ cP}(o:oD e b)(aD:j' e<4294967296)(T O R:Nat):b7 C cm j2 [.d (.ps T O 31 R b),.fn mF [] [.bp 0 0]] [.box (d0.map V.d)] λY r=>∃d,r=[.box d]/\da Y=A'/\hP 0 d=A'/\(Y=.ret (cj (e.any (sT f)))/\d=d0.map V.d):=by
 have i:=o.len;obtain⟨t,K,H,B,A,f1,w,L,D,I,f2,G,E,F,N,f3,J,x,M,y,z,t4,u,d4,n,aB,az,aC,aA,rfl⟩:=ez p;have j:=sK 0 (qT f.k f.n f.exp f.B3 f.note t (fY K H B A f1) (fY w L D I f2) (fY G E F N f3) [.int .i64 (ais J),.str x,.str M,.str y,.int .i64 z,t4,u,d4] f.m f.tg);refine cD ?_;refine cA ?_;refine ck.iter (λc:Nat=>[(0,.d (.ps T O 31 R b)),(1,.fn mF [] [.bp 0 0]),(7,cl (j' b)),(8,cl c)]) (λ_=>_) (λc=>j' e-c) (λc=>c<=j' e/\(e.take c).any (sT f)=B') ?_ 0 ⟨ait _,Z⟩;rintro c ⟨aE,k⟩;apply aZ<;>intro h
 ·have a:c<j' e:=i▸eK h;have⟨aF,v,g⟩:=o.get a;obtain⟨s,l⟩:∃s,s=e[c]:=⟨_,rfl⟩;have m:s∈e:=l▸aiw a;rw[<-l]at g;obtain⟨af,aq,al,Q,an,av,am,U,S,P,W,aa,ap,ao,ab,aw,ar,X,aj,ax,ad,ai,ah,ay,au,ae,ag,ak,ac,rfl⟩:=ez g;have q:=(cx b c).trans v;refine bZ Z ?_;refine cp _ q ?_;refine cA ?_;apply aZ<;>intro n
  ·refine a8 1 ⟨_,Z,Z,j,?_,Z⟩;rw[List.any_eq_true.2 ⟨s,m,n⟩];try rfl
  refine⟨c+1,⟨a,?_⟩,ik,.eP 1 [0],Z,Z⟩;rw[aiD,aix a,List.any_append,k,<-l];simp only[Option.toList,List.any_cons,List.any_nil,Bool.or_false,ai7,sT];exact n
 have a:j' e<=c:=i▸dK h;rw[aiv a]at k;refine a8 1 ⟨_,Z,Z,j,?_,Z⟩;rw[k];try rfl
def Td{h:jj}{d0:cP}(d:ot h d0){f:n_ jj}{a:n_ cP}(m:oD f a)(k:j' f<4294967296)(n g p o:Nat){c:VS}{q:dt->VS->Prop}(b:nth c o=q' (.box (d0.map V.d)))(i:q (.ret (cj (f.any (sT h)))) c):b7 C cm j2 [.d (.ps n g 31 p a),.fn mF [] [.bp o 0]] c q:=
 b7.one (fk:=[.d (.ps n g 31 p a),.fn mF [] [.bp 0 0]]) (P:=λr j=>r=.ret (cj (f.any (sT h)))/\j=d0.map V.d) (Qt d m k n g p) o b (sK 0 d0) rfl rfl (λr s ⟨t,l⟩=>by rw[t,l,rM b];exact i)
def Dq(a:n_ cC)(b:cC):n_ cC:=if b∈a then a else a++[b]
def D8(a:n_ ny):n_ cC:=(a.map ny.n).foldl Dq []
def qD:n_ Ty->Nat
 |[]=>0
 |t::a=>if p3 t then 7 else qD a
def oE(a:jj):n_ Ty:=[a.lo,a.up,a.ty]++a.ps.map ny.b
def yX(a:n_ jj)(b:jj):Nat:=
 if 8<j' b.ps∨65536<j' b.note then 7 else if iv b=B' then 4 else if a.any (sT b)then 5 else if(D8 b.ps).length<j' b.ps then 5 else if qD (oE b)≠0 then qD (oE b)else Dm b.ex
def aaL{s:cC}:∀{b:n_ cC} {k i:Nat},s∈b->∃c,je .string (cv s) (fV k b) i=q' (q' (i+c,cj A'))/\pH (fV k b) c (cv s) (cj A')=fV k b:=by
 intro b;induction b with
 |nil=>intro k i h;simp at h
 |cons a l d=>
  intro k i h;by_cases f:s=a
  ·subst f;refine⟨0,?_,Z⟩;show(match decide (s=s)with
    |true=>q' (q' (i,cj A'))
    |false=>je .string (cv s) (fV (k+1) l) (i+1))=_
   rw[a_ rfl];try rfl
  obtain⟨c,g,e⟩:=d (k:=k+1) (i:=i+1) (by simpa [f]using h);refine⟨c+1,?_,by show _::pH (fV (k+1) l) c (cv s) (cj A')=_;rw[e];try rfl⟩;exact J0
def aaM(a:n_ cC):∀c,j' (fV c a)=j' a:=by
 induction a with
 |nil=>intro c;rfl
 |cons d a b=>intro c;simp[fV,b]
def Nv(a:n_ ny)(b:Nat):n_ cC:=((a.take b).map ny.n).foldl Dq []
def Xr{a:n_ ny}{b:Nat}(h:b<j' a):Nv a (b+1)=Dq (Nv a b) a[b].n:=by
 rw[Nv,aiD,aix h,aiE,List.foldl_append];try rfl
def Dr(a w:Nat)(b:n_ cP):gP a (.row w (b.map λc=>c.map V.d))=A':=by
 cases b with
 |nil=>rfl
 |cons e d=>exact iE a w (e::d)
def Nw(c:Nat->Nat)(w:Nat)(b:n_ cP):eb c (.row w (b.map λa=>a.map V.d))=.row w (b.map λa=>a.map V.d):=gq _ _ (Dr 0 w b)
def Ds(c:Nat->Nat)(w:Nat)(b:n_ cP)(a:cP):q' (cX.row w (aiW (j' b) (aiY 0 (b.map λa=>a.map V.d))++[a.map V.d]))=q' (eb c (.row w ((b++[a]).map λa=>a.map V.d))):=by
 rw[Nw,aiM,aiv sm,aiE];try rfl
theorem fz5{c b:Nat}{a:n_ cP}:q' (jN c b a (.ms c 5 0 (j' a) (j' a)))=q' (V.d (.ps b 0 5 (j' a) a)):=by
 rw[jN,gr]
 grind
def aaN:Nat->Bool:=λa=>ai3 a 72||ai3 a 1000023
def Qu{x:jj}{R:cP}(ac:ot x R)(G:vp x){T:n_ jj}{M:n_ cP}(aN:oD T M)(aQ:j' T<4294967296)(aJ aG aI:Nat)(al:cM x.lo<1073741824/\cM x.up<1073741824/\cM x.ty<1073741824/\(∀aH∈x.ps,cM aH.b<1073741824)/\dm x.ex<1073741824):b7 C cm zf [.agg (R.map V.d),.d (.ps aJ aG 31 aI M)] [] λba aD=>aD=[]/\ba=.ret (cl (yX T x)):=by
 have U:=Hc ac G;have au:=Nu ac G;have az:=@Td x R ac T M aN aQ aJ aG aI;obtain⟨ps,r,p,j,i,f1,f,s,l,q,f2,o,m,n,t,f3,H,D,I,E,F,t4,B,d4,h1,ax,ao,ay,aM,rfl⟩:=ez ac;have J:∃aK:Nat,aK=j' x.ps/\((ps=.cu/\aK=0)∨∃aJ aG aI b,ps=.ps aJ aG 7 aI b/\rS x.ps b/\j' b=aK):=by
  exact Cg
 obtain⟨aK,be,J⟩:=J;by_cases ab:8<j' x.ps∨65536<j' x.note
 ·have hR:yX T x=7:=by rw[yX,X' ab]
  rcases J with⟨rfl,av⟩|⟨A,y,v,b,rfl,Y,aE⟩
  ·have ag:decide (65536<ais (j' x.note))=A':=a_ (by simp only[aiu];omega);refine cB aaN (λ_=>Z) ?_;refine cI U Z Z ?_;refine cN ?_;exact kQ
  by_cases S:8<j' x.ps
  ·have ad:decide (8<ais (j' b))=A':=a_ (by simp only[aiu];omega);refine cB aaN (λ_=>Z) ?_;refine cI U Z Z ?_;refine cN ?_;exact kQ
  have ad:decide (8<ais (j' b))=B':=Z' (by simp only[aiu];omega);have ag:decide (65536<ais (j' x.note))=A':=a_ (by simp only[aiu];omega);refine cB aaN (λ_=>Z) ?_;refine cI U Z Z ?_;refine cN ?_;exact kQ
 have ag:decide (65536<ais (j' x.note))=B':=Z' (by simp only[aiu];omega);have hR:yX T x=if iv x=B' then 4 else if T.any (sT x)then 5 else if(D8 x.ps).length<j' x.ps then 5 else if qD (oE x)≠0 then qD (oE x)else Dm x.ex:=by rw[yX,W' ab]
 apply de (T:=λa:n_ cP=>[(2,.bp 0 0),(8,.ms 1 5 0 (j' a) (j' a))]) (S:=λa:n_ cP=>[.box ((qT x.k x.n x.exp x.B3 x.note ps (fY r p j i f1) (fY f s l q f2) (fY o m n t f3) [.int .i64 (ais H),.str D,.str I,.str E,.int .i64 F,t4,B,d4] x.m x.tg).map V.d),.row 5 (a.map λR=>R.map V.d)]) (I:=λa:n_ cP=>dZ (oE x) a/\yX T x=if qD (oE x)≠0 then qD (oE x)else Dm x.ex)
 ·intro an;rcases J with⟨rfl,av⟩|⟨A,y,v,b,rfl,Y,aE⟩
  ·refine cB aaN (λ_=>Z) ?_;refine cI U Z Z ?_;refine cN ?_;refine cI au Z Z ?_;cases z:iv x with
   |false=>
    rw[z,X' rfl]at hR;exact kQ
   |true=>
   rw[z,W' dc]at hR;refine az 0 Z ?_;apply aZ<;>intro S
   ·have g:T.any (sT x)=A':=S;rw[X' g]at hR;exact kQ
   have g:T.any (sT x)=B':=S;rw[W' (by rw[g];decide)]at hR;refine ck.loop ?_;refine ck.loop ?_;have ae:x.ps=[]:=ai1 om;refine ck.arr (gA:=[.box ((qT x.k x.n x.exp x.B3 x.note .cu (fY r p j i f1) (fY f s l q f2) (fY o m n t f3) [.int .i64 (ais H),.str D,.str I,.str E,.int .i64 F,t4,B,d4] x.m x.tg).map V.d),.row 5 ([fY r p j i f1,fY f s l q f2,fY o m n t f3].map λR=>R.map V.d)]) (fx:=[(2,.bp 0 0),(8,.ms 1 5 0 3 3)]) (.eP 0 [0,2]) (an [fY r p j i f1,fY f s l q f2,fY o m n t f3] ⟨by rw[oE,ae];exact .cons ax (.cons ao (.cons ay .nil)),by rw[hR,ae];try rfl⟩)
  have ad:decide (8<ais (j' b))=B':=Z' (by simp only[aiu];omega);refine cB aaN (λ_=>Z) ?_;refine cI U Z Z ?_;refine cN ?_;refine cI au Z Z ?_;cases z:iv x with
  |false=>
   rw[z,X' rfl]at hR;exact kQ
  |true=>
  rw[z,W' dc]at hR;refine az 0 Z ?_;apply aZ<;>intro S
  ·have g:T.any (sT x)=A':=S;rw[X' g]at hR;exact kQ
  have g:T.any (sT x)=B':=S;rw[W' (by rw[g];decide)]at hR;refine ck.iter (λd:Nat=>[(2,.bp 0 0),(5,.map 1),(39,.d (.ps A y 7 v b)),(40,cl (j' b)),(41,cl d)]) (λd=>[.box ((qT x.k x.n x.exp x.B3 x.note (.ps A y 7 v b) (fY r p j i f1) (fY f s l q f2) (fY o m n t f3) [.int .i64 (ais H),.str D,.str I,.str E,.int .i64 F,t4,B,d4] x.m x.tg).map V.d),qQ (Nv x.ps d)]) (λd=>j' x.ps-d) (λd=>d<=j' x.ps) ?_ 0 (ait _);intro d aR;apply aZ<;>intro w
  ·have c:d<j' x.ps:=by have:=eK w;omega
   obtain⟨aP,W,aS,hbb,rfl⟩:=Y.get c;obtain⟨Q,O,P,N,f7,rfl⟩:=hbb.dL;have u:=(cx b d).trans W;have K:=Xr c;refine bZ Z ?_;refine cp _ u ?_;by_cases L:x.ps[d].n∈Nv x.ps d
   ·rw[Dq,X' L]at K;have⟨ai,ap,aO⟩:=aaL (k:=0) (i:=0) L;refine cp (q' (0+ai,cj A')) ap ?_;exact⟨d+1,c,ik,.pick 0 [0,1] ⟨Z,Z,Z,Z,int_eq (cF om),tv⟩ Z Z Z Z Z dc ⟨Z,Z,by rw[K,gq _ _ (ko _)];exact d_ (λaL=>q' (cX.map aL (j' (Nv x.ps d)))) (by rw[aiL];exact aO),nM _ _ (ko _),tv⟩,Z,Z⟩
   rw[Dq,W' L]at K;refine cp none (C9 L) ?_;exact⟨d+1,c,ik,.pick 0 [0,1] ⟨Z,Z,Z,Z,int_eq (cF om),tv⟩ Z Z Z Z Z dc ⟨Z,Z,by rw[K,gq _ _ (ko _),Pn];try rfl,nM _ _ (ko _),tv⟩,Z,Z⟩
  have c:j' x.ps<=d:=by have:=dK w;omega
  have aw:Nv x.ps d=D8 x.ps:=by rw[Nv,aiv c];try rfl
  have aX:j' (fV 0 (Nv x.ps d))=j' (D8 x.ps):=by rw[aaM,aw]
  apply aZ<;>intro aF
  ·have ar:=eK aF;rw[X' om]at hR;exact kQ
  have ar:=dK aF;rw[W' om]at hR;refine ck.arr (gA:=[.box ((qT x.k x.n x.exp x.B3 x.note (.ps A y 7 v b) (fY r p j i f1) (fY f s l q f2) (fY o m n t f3) [.int .i64 (ais H),.str D,.str I,.str E,.int .i64 F,t4,B,d4] x.m x.tg).map V.d),.row 5 ([fY r p j i f1,fY f s l q f2,fY o m n t f3].map λR=>R.map V.d)]) (fx:=[(2,.bp 0 0),(8,.ms 1 5 0 3 3),(63,.d (.ps A y 7 v b)),(64,cl (j' b)),(65,cl 0)]) (.eP 0 [0,2]) ?_;refine ck.iter (λaa:Nat×n_ cP=>[(2,.bp 0 0),(8,.ms 1 5 0 (j' aa.2) (j' aa.2)),(63,.d (.ps A y 7 v b)),(64,cl (j' b)),(65,cl aa.1)]) (λaa=>[.box ((qT x.k x.n x.exp x.B3 x.note (.ps A y 7 v b) (fY r p j i f1) (fY f s l q f2) (fY o m n t f3) [.int .i64 (ais H),.str D,.str I,.str E,.int .i64 F,t4,B,d4] x.m x.tg).map V.d),.row 5 (aa.2.map λR=>R.map V.d)]) (λaa=>j' x.ps-aa.1) (λaa=>aa.1<=j' x.ps/\dZ ([x.lo,x.up,x.ty]++(x.ps.take aa.1).map ny.b) aa.2) ?_ (0,[fY r p j i f1,fY f s l q f2,fY o m n t f3]) ⟨ait _,.cons ax (.cons ao (.cons ay .nil))⟩;rintro⟨ai,a⟩ ⟨ap,hA⟩;apply aZ<;>intro w
  ·have nH:ai<j' x.ps:=by have:=eK w;omega
   obtain⟨aP,W,aS,hbb,rfl⟩:=Y.get nH;obtain⟨Q,O,P,N,f7,rfl⟩:=hbb.dL;have u:=(cx b ai).trans W;refine bZ Z ?_;refine cp _ u ?_;have ah:=hA.len;simp only[aiz,aiB,aiA,aiC,aiF]at ah;have am:dZ ([x.lo,x.up,x.ty]++(x.ps.take (ai+1)).map ny.b) (a++[fY Q O P N f7]):=by
    exact KC
   have aA:V.ms 3 5 0 (j' a+1) (j' a+1)=V.ms 3 5 0 (j' (a++[fY Q O P N f7])) (j' (a++[fY Q O P N f7])):=by rw[aiz];try rfl
   intro aY;refine a6 Z (a6 ⟨Z,Z,by simp,aiy _,ug (by show (j' a)<=_;omega) (aiy _) (aiG Z)⟩ (a7 Z (a7 (ej _) ?_)));exact⟨(ai+1,a++[fY Q O P N f7]),⟨nH,am⟩,ik,.pick 0 [0,3] ⟨Z,d_ q' aA,Z,Z,int_eq (cF om),tv⟩ Z Z Z Z Z dc ⟨Z,Z,Ds _ 5 a _,Dr _ _ _,tv⟩,Z,Z⟩
  have nH:j' x.ps<=ai:=by have:=dK w;omega
  rw[aiv nH]at hA;have aC:dZ (oE x) a:=hA;exact ck.arr (gA:=[.box ((qT x.k x.n x.exp x.B3 x.note (.ps A y 7 v b) (fY r p j i f1) (fY f s l q f2) (fY o m n t f3) [.int .i64 (ais H),.str D,.str I,.str E,.int .i64 F,t4,B,d4] x.m x.tg).map V.d),.row 5 (a.map λR=>R.map V.d)]) (fx:=[(2,.bp 0 0),(8,.ms 1 5 0 (j' a) (j' a))]) (.pick 0 [0,1] ⟨Z,Z,tv⟩ Z Z Z Z Z dc ⟨Z,Z,d_ q' (Nw _ _ _).symm,Dr _ _ _,tv⟩) (an a ⟨aC,hR⟩)
 rintro a ⟨hA,hR⟩;have aV:=hA.len;have aW:j' (oE x)=3+j' x.ps:=by rw[oE,aiz,aiC];try rfl
 have aU:j' x.ps<=8:=om;have X:∀aT∈oE x,hO aT/\cM aT<4294967295:=by
  intro aT aj;simp only[oE,aiH,aiX,List.mem_map,List.not_mem_nil,or_false]at aj;rcases aj with(rfl|rfl|rfl)|⟨aH,aB,rfl⟩
  ·exact⟨G.lo,om⟩
  ·exact⟨G.up,om⟩
  ·exact⟨G.ty,om⟩
  exact⟨(G.ps aH aB).1,by have:=al.2.2.2.1 aH aB;omega⟩
 refine ck.freeze 1 [(2,.bp 0 0),(75,.ms 1 5 0 (j' a) (j' a)),(76,cl (j' a)),(77,cl 0)] (es:=5) (els:=a.map λaL=>aL.map V.d) (l:=a) Z (dF _) ⟨Z,Z,Z,Z,tv⟩ ⟨tv,(λ_=>⟨Z,Nat.le_of_eq (aiL _)⟩),tv,tv,tv⟩ (λaq=>?_);refine ck.less (fx:=[(2,.bp 0 0),(75,.d (.ps aq 0 5 (j' a) a)),(76,cl (j' a)),(77,cl 0)]) ⟨Z,fz5,Z,Z,tv⟩ ?_;refine ck.iter (λd:Nat=>[(2,.bp 0 0),(75,.d (.ps aq 0 5 (j' a) a)),(76,cl (j' a)),(77,cl d)]) (λd=>[.box ((qT x.k x.n x.exp x.B3 x.note ps (fY r p j i f1) (fY f s l q f2) (fY o m n t f3) [.int .i64 (ais H),.str D,.str I,.str E,.int .i64 F,t4,B,d4] x.m x.tg).map V.d),.gone]) (λd=>j' a-d) (λd=>d<=j' a/\qD (oE x)=qD ((oE x).drop d)) ?_ 0 ⟨ait _,Z⟩;rintro d ⟨aR,e⟩;apply aZ<;>intro w
 ·have c:d<j' (oE x):=by have:=eK w;omega
  have⟨bc,W,af⟩:=hA.get c;obtain⟨Q,O,P,N,f7,rfl⟩:=af.dL;have u:=(cx a d).trans W;rw[aiN c,qD]at e;refine bZ Z ?_;refine cp _ u ?_;refine xm _ _ af (X _ (aiw c)).1 (X _ (aiw c)).2 ?_;cases ak:p3 (oE x)[d]with
  |true=>
   rw[ak,X' rfl]at e;rw[X' (by rw[e];decide),e]at hR;exact kQ
  |false=>
   rw[ak,W' dc]at e;exact⟨d+1,⟨by show d+1<=j' a;omega,e⟩,ik,.eP 0 [0,1],Z,Z⟩
 have c:j' (oE x)<=d:=by have:=dK w;omega
 rw[aiQ c]at e;rw[W' (by rw[e];decide)]at hR;refine Qk _ _ aM G.ex om ?_;exact kQ
def kc(a:n_ jj):n_ jj->Nat×Nat
 |[]=>(0,0)
 |x::b=>if yX a x≠0 then(j' a,yX a x)else kc (a++[x]) b
def Hd(a:Da):Int×Nat:=if oF a≠0 then(-1,oF a)else(ais (kc [] a.ds).1,(kc [] a.ds).2)
structure Xs (m:Da):Prop where
 size:D7 m<=4096
 path:fQ m.p=A'
 is:∀x∈m.is,fQ x.p=A'/\c8 x.a=A'
 ds:∀x∈m.ds,vp x
theorem He{a:n_ jj}{b:jj}(h:b∈a):jf b<=jg a:=by
 induction a with
 |nil=>cases h
 |cons d c e=>
  have:jg (d::c)=jf d+jg c:=rfl;all_goals grind [aiX.1]
theorem aaO{a:n_ ny}{d:ny}(h:d∈a):cM d.b<=oy a:=by
 induction a with
 |nil=>cases h
 |cons c b e=>
  have:oy (c::b)=cM c.b+oy b:=rfl;all_goals grind [aiX.1]
theorem Te{b:jj}(f:vp b)(i:jf b<=4096):cM b.lo<1073741824/\cM b.up<1073741824/\cM b.ty<1073741824/\(∀k∈b.ps,cM k.b<1073741824)/\dm b.ex<1073741824:=by
 have d:cM cY<1073741824:=dc;have l:dm mw<1073741824:=dc;rcases f.kind with⟨a,_,j,_,_,g⟩|⟨a,_,c,e,_,_,_⟩|⟨a,g,c,e,m,j,_⟩
 ·have:=Dp a
  grind
 ·rw[yA a]at i;exact⟨by rw[c];exact d,by rw[e];exact d,om,(λk h=>by have:=aaO h;omega),om⟩
 grind
def oD.take{d:n_ jj}{a:n_ cP}(h:oD d a)(b:Nat):oD (d.take b) (a.take b):=by
 induction h generalizing b with
 |nil=>simp;exact .nil
 |cons h e c=>cases b with
  |zero=>exact .nil
  |succ b=>exact .cons h (c b)
def Tf{f:jj}{l:cP}(b:ot f l)(d:vp f){g:n_ jj}{a:n_ cP}(i:oD g a)(h:j' g<4294967296)(m k n:Nat)(c:jf f<=4096){e:VS}{j:dt->VS->Prop}(hk:j (.ret (cl (yX g f))) e):b7 C cm zf [.agg (l.map V.d),.d (.ps m k 31 n a)] e j:=by
 have h0:=Qu b d i h m k n (Te d c);obtain⟨v,o,F,K,I,f1,H,p,M,J,f2,w,r,t,B,f3,y,L,u,s,D,t4,E,d4,z,q,G,x,A,rfl⟩:=ez b;exact nk
def Tg(t:Da)(J:cP)(u:xj t J)(h:Xs t):b7 C cm wN [.agg (J.map V.d)] [] λU B=>B=[]/\U=.ret (.dP [.d (.int .i64 (Hd t).1),cl (Hd t).2]):=by
 have L:=Tc t J u h.size (λac N _=>(h.ds ac N).ex) h.path h.is;have z:=h.size;have p:=h.ds;obtain⟨x,A,D,i,rfl⟩:=u;have⟨n,g,a⟩:=t;have Q:jg a<=4096:=by have:1+j' g+jg a<=4096:=z;omega
 have S:=xy a;refine cD ?_;refine cI L Z Z ?_;apply aZ<;>intro q
 ·have k:oF ⟨n,g,a⟩≠0:=λH=>by rw[H]at q;cases q
  exact a8 0 ⟨Z,by rw[Hd,X' k];try rfl⟩
 have k:oF ⟨n,g,a⟩=0:=jq q;have hM:Hd ⟨n,g,a⟩=(ais (kc [] a).1,(kc [] a).2):=by rw[Hd,W' (by rw[k];decide)]
 have i:ul a A:=i;cases i with
 |nil=>
  refine ck.loop ?_;exact xX
 |ps r O=>
  rename_i M G j f;have R:=r.len;refine ck.iter (λc:Nat=>[(1,.bp 0 0),(14,.d (.ps M G 31 j f)),(15,cl (j' f)),(16,cl c)]) (λ_=>[.box [cv n,.d x,.d (.ps M G 31 j f)]]) (λc=>j' a-c) (λc=>c<=j' a/\kc [] a=kc (a.take c) (a.drop c)) ?_ 0 ⟨ait _,Z⟩;rintro c ⟨D,d⟩;apply aZ<;>intro v
  ·have b:c<j' a:=by have:=eK v;omega
   have⟨au,K,o⟩:=r.get b;have w:=p _ (aiw b);have F:jf a[c]<=4096:=by have:=He (aiw b);omega
   have m:=λE P (I:P (.ret (cl (yX (a.take c) a[c]))) E)=>@Tf _ _ o w _ _ (r.take c) (by rw[aiF];omega) M (G+0*31) (j-0) F E P I;obtain⟨ps,T,al,ap,ao,f1,am,W,av,aq,f2,ae,X,aa,ag,f3,af,ar,ab,Y,ah,t4,aj,d4,ak,ad,aw,ai,an,rfl⟩:=ez o;have y:=(cx f c).trans K;refine bZ Z ?_;refine cp _ y ?_;have e:=O;refine bZ Z ?_;refine a6 ⟨ait _,om,e,om,Z⟩ ?_;refine a6 (by repeat' (first|exact tv|exact rfl|refine bZ rfl ?_|exact ait _|(show _<_;omega)|(show _<=_;omega)|exact e|refine aiP ?_ ?_)) ?_;refine m _ _ ?_;refine a6 (by repeat' (first|exact tv|exact rfl|refine bZ rfl ?_|exact ait _|(show _<_;omega)|(show _<=_;omega)|exact e|refine aiP ?_ ?_)) ?_;refine a6 (by repeat' (first|exact tv|exact rfl|refine bZ rfl ?_|exact ait _|(show _<_;omega)|(show _<=_;omega)|exact e|refine aiP ?_ ?_)) ?_;rw[aiN b,kc]at d;apply aZ<;>intro s
   ·have l:yX (a.take c) a[c]≠0:=λH=>by rw[H]at s;cases s
    rw[X' l,aiF,Nat.min_eq_left D]at d;exact a8 0 ⟨Z,by rw[hM,d];try rfl⟩
   have l:yX (a.take c) a[c]=0:=jq s;rw[W' (by rw[l];decide)]at d;refine⟨c+1,⟨b,?_⟩,ik,.eP 0 [0],Z,Z⟩;rw[d,aiD,aix b];try rfl
  have b:j' a<=c:=by have:=dK v;omega
  rw[aiQ b,kc]at d;refine a8 0 ⟨Z,by rw[hM,d];try rfl⟩
section
variable{R R':Rd} (h:R.ts=R'.ts)
include h
def xz(b a:Nat):fH b R a=fH b R' a:=by rw[fH,fH,fq h]
def aaP:∀(a:Nat) (c:cC) (b:Nat),l9 R a c b=l9 R' a c b:=by
 intro a;induction a with
 |zero=>intro c b;rfl
 |succ a d=>intro c b;simp only[l9,fq h,lJ h,d]
def Qv(a:Nat):gj R a=gj R' a:=by simp only[gj,aaP h,lJ h,fq h,h]
def aaQ{α:Type}{step a:α->Nat->PR α}(f:∀c b,step c b=a c b):∀(d:Nat) (c:α) (b:Nat),nA step R d c b=nA a R' d c b:=by
 intro d;induction d with
 |zero=>intro c b;rfl
 |succ d e=>intro c b;simp only[nA,fq h,kb h,f,e]
def Qw{α:Type}{step a:α->Nat->PR α}(d:∀b c,step b c=a b c)(b:α)(c:Nat):gi step R b c=gi a R' b c:=by simp only[gi,fq h,aaQ h d,h]
def Xt(b:n_ ny)(a:Nat):fM R b a=fM R' b a:=by simp only[fM,fq h,xz h]
def Xu(a:Nat->PR Ty)(c:n_ ny)(b:Nat):eX a R c b=eX a R' c b:=by simp only[eX,fq h,xz h]
def ac8(a:Nat->PR Ty)(c:cC)(t0:Ty)(b:Nat):ka a R c t0 b=ka a R' c t0 b:=by simp only[ka,fq h]
def ur{α:Type}{c a:Nat->PR α}(d:∀b,c b=a b)(e:cC)(b:Nat):dC c R e b=dC a R' e b:=by simp only[dC,kb h,d]
def Th(a:Nat):gF R a=gF R' a:=by simp only[gF,fq h,xz h,lJ h]
def Xv(a:Nat->PR Ty)(d c:Bool)(b:cC)(e:Nat):jk a R d c b e=jk a R' d c b e:=by simp only[jk,xz h,Qw h (Xt h),ac8 h,ur h (λ_=>rfl)]
def Xw(a:Nat->PR Ty)(b:Nat->PR Ex)(e d:Bool)(c:cC)(f:Nat):lF a b R e d c f=lF a b R' e d c f:=by simp only[lF,lJ h,Qw h (Xu h a),ur h (λ_=>rfl)]
def Xx(a d:Bool)(b:cC)(c:Nat):kA R a d b c=kA R' a d b c:=by simp only[kA,lJ h,ur h (Th h)]
def aaR(a:Nat):kl R a=kl R' a:=by simp only[kl,fq h,xz h]
def aaS(b:Nat->PR Ty)(a:Nat->PR Ex)(c:Nat):km b a R c=km b a R' c:=by simp only[km,fq h,aaR h,Xv h,Xw h,Xx h]
def Ti(a:Nat):gG R a=gG R' a:=by simp only[gG,Qv h,ur h (lJ h)]
def Qx:∀(a:Nat) (c:n_ ux) (b:Nat),eI R a c b=eI R' a c b:=by
 intro a;induction a with
 |zero=>intro c b;rfl
 |succ a d=>intro c b;simp only[eI,fq h,Ti h,d]
def Xy(d:Nat->PR Ty)(c:Nat->PR Ex):∀(b:Nat) (f:n_ jj) (a:n_ Nat) (e:Nat),ja d c R b f a e=ja d c R' b f a e:=by
 intro b;induction b with
 |zero=>intro f a e;rfl
 |succ b g=>intro f a e;simp only[ja,fq h,aaS h,g]
def ac9(b:Nat->PR Ty)(a:Nat->PR Ex)(c:Nat):rR b a R c=rR b a R' c:=by simp only[rR,Qx h,Xy h,ur h (Qv h),h]
end
def UM(b a:Nat)(ts:n_ Tok)(c:Nat):EF ⟨b,a,ts⟩ c=EF ⟨0,0,ts⟩ c:=by
 unfold EF;rw[afl (R:=⟨b,a,ts⟩) (R':=⟨0,0,ts⟩) rfl,UI (R:=⟨b,a,ts⟩) (R':=⟨0,0,ts⟩) rfl,ac9 (R:=⟨b,a,ts⟩) (R':=⟨0,0,ts⟩) rfl]
def us(R:Rd)(a:Nat):(dp R a).E:=by
 rw[dp];split
 ·exact .bad dc
 exact .ok
def BU(R:Rd)(b a:Nat):(fH b R a).E:=by
 rw[fH];split
 ·exact .bad dc
 exact .ok
theorem ada(R:Rd):∀(a:Nat) (c:cC) (b:Nat),(l9 R a c b).E:=by
 intro a;induction a with
 |zero=>intro c b;exact .bad dc
 |succ a e=>
  intro c b;rw[l9];split
  ·have d:=us R (b+1)
   grind
  exact .ok
def UN(R:Rd)(c:Nat):(gj R c).E:=by
 rw[gj];have a:=us R c;revert a;cases dp R c with
 |bad d e=>exact λa=>.bad a.get
 |ok s b=>
  intro _;dsimp only;have a:=ada R (j' R.ts) s b;revert a;cases l9 R (j' R.ts) s b with
  |bad d e=>exact λa=>.bad a.get
  |ok s b=>
   intro _;dsimp only;split
   ·exact .ok
   exact .bad dc
def adb{α:Type}{step:α->Nat->PR α}(f:∀c b,(step c b).E)(R:Rd):∀(d:Nat) (c:α) (b:Nat),(nA step R d c b).E:=by
 intro d;induction d with
 |zero=>intro c b;exact .bad dc
 |succ d e=>
  intro c b;rw[nA];have a:=f c b;revert a;cases step c b with
  |bad i j=>exact λa=>.bad a.get
  |ok g h=>
   intro _;dsimp only;split
   ·exact e _ _
   exact(jB R _ _).map
def UO{α:Type}{step:α->Nat->PR α}(a:∀c b,(step c b).E)(R:Rd)(c:α)(b:Nat):(gi step R c b).E:=by
 rw[gi];split
 ·exact adb a R _ _ _
 exact .ok
def aaT(R:Rd)(b:n_ ny)(a:Nat):(fM R b a).E:=by
 rw[fM];split
 ·exact .bad dc
 exact(BU R _ _).map
def aaU{b:Nat->PR Ty}(d:∀c,(b c).E)(R:Rd)(e:n_ ny)(c:Nat):(eX b R e c).E:=by
 rw[eX];have a:=BU R 2 c;revert a;cases fH 2 R c with
 |bad g h=>exact λa=>.bad a.get
 |ok s f=>
  intro _;dsimp only;split
  ·exact(d _).map
  exact .ok
def aaV{a:Nat->PR Ty}(b:∀c,(a c).E)(R:Rd)(d:cC)(t0:Ty)(c:Nat):(ka a R d t0 c).E:=by
 rw[ka];split
 ·exact(b _).map
 exact .ok
def rX{α:Type}{c:Nat->PR α}(d:∀b,(c b).E)(R:Rd)(s:cC)(b:Nat):(dC c R s b).E:=by
 rw[dC];have a:=jB R [s] b;revert a;cases cw R [s] b with
 |bad f g=>exact λa=>.bad a.get
 |ok s e=>exact λ_=>d _
def LA(R:Rd)(a:Nat):(gF R a).E:=by
 rw[gF];split
 ·exact BU R _ _
 exact us R _
def aaW{b:Nat->PR Ty}(c:∀d,(b d).E)(R:Rd)(k j:Bool)(i:cC)(d:Nat):(jk b R k j i d).E:=by
 rw[jk];have a:=BU R 2 d;revert a;cases fH 2 R d with
 |bad e f=>exact λa=>.bad a.get
 |ok s g=>
  intro _;dsimp only;have a:=UO (aaT R) R [] g;revert a;cases gi (fM R) R [] g with
  |bad e f=>exact λa=>.bad a.get
  |ok h q1=>
   intro _;dsimp only;have a:=aaV c R [62,58] uk q1;revert a;cases ka b R [62,58] uk q1 with
   |bad e f=>exact λa=>.bad a.get
   |ok l q2=>
    intro _;dsimp only;have a:=aaV c R [60,58] cY q2;revert a;cases ka b R [60,58] cY q2 with
    |bad e f=>exact λa=>.bad a.get
    |ok m q3=>exact λ_=>(rX c R _ _).map
def aaX{b:Nat->PR Ty}(e:∀c,(b c).E){d:Nat->PR Ex}(f:∀c,(d c).E)(R:Rd)(m l:Bool)(k:cC)(c:Nat):(lF b d R m l k c).E:=by
 rw[lF];have a:=us R c;revert a;cases dp R c with
 |bad h i=>exact λa=>.bad a.get
 |ok s g=>
  intro _;dsimp only;have a:=UO (aaU e R) R [] g;revert a;cases gi (eX b R) R [] g with
  |bad h i=>exact λa=>.bad a.get
  |ok j q1=>
   intro _;dsimp only;have a:=rX e R [58] q1;revert a;cases dC b R [58] q1 with
   |bad h i=>exact λa=>.bad a.get
   |ok n q2=>exact λ_=>(rX f R _ _).map
def aaY(R:Rd)(g f:Bool)(e:cC)(b:Nat):(kA R g f e b).E:=by
 rw[kA];have a:=us R b;revert a;cases dp R b with
 |bad h i=>exact λa=>.bad a.get
 |ok s c=>
  intro _;dsimp only;have a:=rX (LA R) R [58,58] c;revert a;cases dC (gF R) R [58,58] c with
  |bad h i=>exact λa=>.bad a.get
  |ok d q1=>exact λ_=>(rX (LA R) R _ _).map
def ade(R:Rd)(a:Nat):(kl R a).E:=by
 rw[kl];split
 ·split
  ·exact(BU R _ _).map
  exact .ok
 exact .ok
def adf{e:Nat->PR Ty}(d:∀b,(e b).E){c:Nat->PR Ex}(f:∀b,(c b).E)(R:Rd)(b:Nat):(km e c R b).E:=by
 rw[km];have a:=ade R b;revert a;cases kl R b with
 |bad i j=>exact λa=>.bad a.get
 |ok h g=>
  intro _;dsimp only;split
  ·exact aaW d R _ _ _ _
  split
  ·exact aaX d f R _ _ _ _
  split
  ·exact aaY R _ _ _ _
  exact .bad dc
def Xz(R:Rd)(b:Nat):(gG R b).E:=by
 rw[gG];have a:=UN R b;revert a;cases gj R b with
 |bad d e=>exact λa=>.bad a.get
 |ok s c=>exact λ_=>(rX (us R) R _ _).map
def Tj(R:Rd):∀(c:Nat) (e:n_ ux) (b:Nat),(eI R c e b).E:=by
 intro c;induction c with
 |zero=>intro e b;exact .bad dc
 |succ c d=>
  intro e b;rw[eI];split
  ·have a:=Xz R (b+1);revert a;cases gG R (b+1)with
   |bad g h=>exact λa=>.bad a.get
   |ok s f=>exact λ_=>d _ _
  exact .ok
def aaZ{e:Nat->PR Ty}(h:∀a,(e a).E){c:Nat->PR Ex}(i:∀a,(c a).E)(R:Rd):∀(f:Nat) (j:n_ jj) (d:n_ Nat) (a:Nat),(ja e c R f j d a).E:=by
 intro f;induction f with
 |zero=>intro j d a;exact .bad dc
 |succ f g=>
  intro j d a;rw[ja];split
  ·have b:=adf h i R a;revert b;cases km e c R a with
   |bad l m=>exact λb=>.bad b.get
   |ok s k=>exact λ_=>g _ _ _
  exact .ok
def afq{d:Nat->PR Ty}(f:∀b,(d b).E){c:Nat->PR Ex}(g:∀b,(c b).E)(R:Rd)(b:Nat):(rR d c R b).E:=by
 rw[rR];have a:=rX (UN R) R [109,111,100,117,108,101] b;revert a;cases dC (gj R) R [109,111,100,117,108,101] b with
 |bad h i=>exact λa=>.bad a.get
 |ok s e=>
  intro _;dsimp only;have a:=Tj R (j' R.ts) [] e;revert a;cases eI R (j' R.ts) [] e with
  |bad h i=>exact λa=>.bad a.get
  |ok s e=>exact λ_=>(aaZ f g R _ _ _ _).map
def afr(R:Rd)(a:Nat):(EF R a).E:=afq (aap R _) (agW R _) R a
def oL:Da:=⟨[],[],[]⟩
def yY(e:cC):Da×Nat×Nat:=match k5 e with
 |.err a c=>(oL,a,c)
 |.ok ts=>match EF ⟨0,0,ts⟩ 0 with
  |.bad a c=>(oL,a,c)
  |.ok b d=>if(Rd.tok ⟨0,0,ts⟩ d).kind≠0 then(oL,(Rd.tok ⟨0,0,ts⟩ d).off,3)
   else if oF b.1≠0 then(oL,0,oF b.1)
   else if(kc [] b.1.ds).2≠0 then(oL,b.2.getD (kc [] b.1.ds).1 0,(kc [] b.1.ds).2)else(b.1,0,0)
def Tk(a:cC)(c:dt):Prop:=∃b,xj (yY a).1 b/\c=.ret (.dP [.agg (b.map V.d),cl (yY a).2.1,cl (yY a).2.2])
def adg:xj oL [.str [],.cu,.cu]:=⟨_,_,.nil,.nil,rfl⟩
def Cj{b:cC}{a c:Nat}(h:yY b=(oL,a,c)):Tk b (.ret (.dP [yz,cl a,cl c])):=by
 rw[Tk,h];exact⟨_,adg,Z⟩
theorem UP:∀(b a:n_ jj),(kc a b).2≠0->(kc a b).1<j' a+j' b:=by
 intro b;induction b with
 |nil=>intro a h;exact Y' rfl h
 |cons d e c=>
  all_goals grind [kc,aiz,aiB,aiA]
theorem Tl(s:cC)(D:∀ts b o,k5 s=.ok ts->EF ⟨0,0,ts⟩ 0=.ok b o->Xs b.1/\j' b.2=j' b.1.ds):b7 C cm vx [cv s] [] λt x=>x=[]/\da t=A'/\Tk s t:=by
 refine cD ?_;refine S9 s 1 ?_ (λt E a=>?_)
 ·exact Z
 unfold D6 at a;cases d:k5 s with
 |err c r=>
  rw[d]at a;have a:t=.ret (.dP [yz,cl c,cl r]):=a;subst a;have i:=GL d;have hp:yY s=(oL,c,r):=by rw[yY,d]
  refine aZ (λh=>?_) (λh=>Y' (jq h) i);exact oQ
 |ok ts=>
  rw[d]at a;dsimp only at a;obtain⟨L,n,a⟩:=a;rw[UM]at a;cases f:EF ⟨0,0,ts⟩ 0 with
  |bad c r=>
   rw[f]at a;have a:t=.ret (.dP [yz,cl c,cl r]):=a;subst a;have i:=afr _ _ c r f;have hp:yY s=(oL,c,r):=by rw[yY,d];dsimp only;rw[f]
   refine aZ (λh=>?_) (λh=>Y' (jq h) i);exact oQ
  |ok A o=>
   have⟨b,e⟩:=A;rw[f]at a;dsimp only at a;have G:Rd.tok ⟨L,n,ts⟩ o=Rd.tok ⟨0,0,ts⟩ o:=fq (R:=⟨L,n,ts⟩) (R':=⟨0,0,ts⟩) rfl o;rw[G]at a;have hp:yY s=if(Rd.tok ⟨0,0,ts⟩ o).kind≠0 then(oL,(Rd.tok ⟨0,0,ts⟩ o).off,3)
    else if oF b≠0 then(oL,0,oF b)
    else if(kc [] b.ds).2≠0 then(oL,e.getD (kc [] b.ds).1 0,(kc [] b.ds).2)else(b,0,0):=by rw[yY,d];dsimp only;rw[f]
   by_cases v:(Rd.tok ⟨0,0,ts⟩ o).kind≠0
   ·rw[X' v]at a hp;subst a;exact oQ
   rw[W' v]at a hp;obtain⟨J,g,p,rfl⟩:=a;have g:xj b J:=g;have p:Lo e E:=p;obtain⟨F,u⟩:Xs b/\j' e=j' b.ds:=D _ _ _ d f;have B:=Tg b J g F;have z:=g;obtain⟨I,K,S,H,rfl⟩:=g;refine cI B Z Z ?_;rw[Hd];by_cases j:oF b≠0
   ·rw[X' j];rw[X' j]at hp;have y:(!decide (ais (oF b)=0))=A':=by rw[Lx j];try rfl
    refine cN ?_;exact oQ
   rw[W' j];rw[W' j]at hp;by_cases l:(kc [] b.ds).2≠0
   ·rw[X' l]at hp;have y:(!decide (ais (kc [] b.ds).2=0))=A':=by rw[Lx l];try rfl
    have M:decide (ais (kc [] b.ds).1<0)=B':=Z' (by simp only[aiu];omega);have m:=UP b.ds [] l;simp only[aiA,aiL]at m;cases p with
    |nil=>exact Y' m (by rw[<-u];exact ai2 _)
    |ps=>
     rename_i P T O;have N:(kc [] b.ds).1<j' e:=om;have q:nth (e.map λQ=>([.int .i64 (ais Q)]:cP)) (kc [] b.ds).1=q' [.int .i64 (ais (e.getD (kc [] b.ds).1 0))]:=by
      grind [cx]
     refine cN ?_;refine bZ Z ?_;refine cp _ q ?_;repeat (refine cO ?_)
     exact oQ
   rw[W' l]at hp;have w:(kc [] b.ds).2=0:=om;rw[w];refine cN ?_;refine a8 0 ⟨Z,Z,?_⟩;rw[Tk,hp];exact⟨_,z,Z⟩
section
variable{R:Rd} (w:R.Wf) (lj:R.Nm)
include w lj
theorem Nx{a d:Nat}{s:cC}(h:fH 2 R a=.ok s d):eC s=A'/\d=a+1/\d<j' R.ts:=by
 rw[fH]at h;split at h
 ·cases h
 rename_i c;cases h;have c:(R.tok a).kind=2:=om;have b:a<j' R.ts:=by
  all_goals grind [Rd.tok]
 exact⟨(lj a b).2 c,Z,w.go a _ (cn b) om⟩
theorem Ny{a d:Nat}{s:cC}(h:dp R a=.ok s d):c8 s=A'/\d=a+1/\d<j' R.ts:=by
 rw[dp]at h;split at h
 ·cases h
 rename_i c;cases h;have c:(R.tok a).kind=1:=om;have b:a<j' R.ts:=by
  all_goals grind [Rd.tok]
 exact⟨(lj a b).1 c,Z,w.go a _ (cn b) om⟩
omit lj in
theorem rY{α:Type}{b:Nat->PR α}{s:cC}{c e:Nat}{f:α}(d:c<j' R.ts)(h:dC b R s c=.ok f e):c+1<j' R.ts/\b (c+1)=.ok f e:=by
 rw[dC]at h;split at h
 ·cases h
 rename_i j q1 a;have g:=dI _ _ _ a;have i:=eo w _ _ _ d a
 grind [aiB,aiA]
omit lj in
theorem aa0{d:Nat->PR Ty}(i:Good d R 0){j:cC}{t0:Ty}(k:hO t0){e b:Nat}{a:Bool×Ty}(f:e<j' R.ts)(h:ka d R j t0 e=.ok a b):hO a.2/\((a.1=B'/\a.2=t0/\b=e)∨(a.1=A'/\cM a.2+e+1<=b))/\e<=b/\b<j' R.ts:=by
 rw[ka]at h;split at h
 ·rename_i g;obtain⟨m,c,rfl⟩:=dY h;have⟨p,n,o,l⟩:=i _ _ _ (ait _) (w.step f g) c
  grind
 grind
omit lj in
theorem XA{α:Type}{step:α->Nat->PR α}{g:α->Prop}{e:α->Nat}(o:∀d b a c,b<j' R.ts->g d->step d b=.ok a c->g a/\e a+b<=e d+c+1/\b<c/\c<j' R.ts):∀(f:Nat) (d:α) (b:Nat) (a:α) (c:Nat),b<j' R.ts->g d->nA step R f d b=.ok a c->g a/\e a+b<=e d+c/\b<c/\c<j' R.ts:=by
 intro f;induction f with
 |zero=>intro d b a c _ _ h;cases h
 |succ f q=>
  intro d b a c l r h;rw[nA]at h;split at h
  ·cases h
  rename_i v q1 p;have⟨k,u,x,i⟩:=o _ _ _ _ l r p;split at h
  ·rename_i j;have⟨m,s,y,n⟩:=q _ _ _ _ (w.step i j) k h;exact⟨m,om,om,n⟩
  obtain⟨z,t,rfl⟩:=dY h
  grind [aiB,aiA,dI,eo]
omit lj in
theorem LB{α:Type}{step:α->Nat->PR α}{P:α->Prop}{M:α->Nat}(k:∀d c a b,c<j' R.ts->P d->step d c=.ok a b->P a/\M a+c<=M d+b+1/\c<b/\b<j' R.ts){d a:α}{c b:Nat}(e:c<j' R.ts)(g:P d)(h:gi step R d c=.ok a b):P a/\M a+c<=M d+b/\c<=b/\b<j' R.ts:=by
 rw[gi]at h;split at h
 ·rename_i j;have⟨f,l,m,i⟩:=XA w k _ _ _ _ _ (w.step e j) g h;exact⟨f,om,om,i⟩
 grind
theorem afs(f:n_ ny)(d:Nat)(b:n_ ny)(c:Nat)(g:d<j' R.ts)(j:∀a∈f,a.b=cY/\a.vr<=2/\eC a.n=A')(h:fM R f d=.ok b c):(∀a∈b,a.b=cY/\a.vr<=2/\eC a.n=A')/\j' b+d<=j' f+c+1/\d<c/\c<j' R.ts:=by
 rw[fM]at h;split at h
 ·cases h
 rename_i m i;obtain⟨s,e,rfl⟩:=dY h;obtain⟨k,rfl,l⟩:=Nx w lj e;all_goals grind [oq,aiz,aiB,aiA,aiK,aiH.1]
theorem sU:hO cY:=.mk (.base om) (λb a=>by cases a)
theorem XB:hO uk:=.mk (.base om) (λb a=>by cases a)
theorem aa1:fN mw:=.mk .int (λb a=>by cases a)
theorem aft{e:Nat->PR Ty}(k:Good e R 0)(f:n_ ny)(g:Nat)(a:n_ ny)(i:Nat)(o:g<j' R.ts)(t:∀b∈f,hO b.b/\b.vr=0/\eC b.n=A')(h:eX e R f g=.ok a i):(∀b∈a,hO b.b/\b.vr=0/\eC b.n=A')/\(j' a+oy a)+g<=(j' f+oy f)+i+1/\g<i/\i<j' R.ts:=by
 rw[eX]at h;split at h
 ·cases h
 rename_i s q1 l;obtain⟨n,rfl,d⟩:=Nx w lj l;split at h
 ·rename_i j;obtain⟨v,c,rfl⟩:=dY h;have⟨q,m,u,p⟩:=k _ _ _ (ait _) (w.step d j) c;all_goals grind [BS,aiz,aiB,aiA,oy,aiK,aiH.1]
 cases h;refine⟨λb r=>?_,by rw[BS];simp only[aiz,aiB,aiA,oy,show cM cY=1 from rfl];omega,om,d⟩;all_goals grind [aiK,aiH.1,sU]
end
section
variable{R:Rd} (w:R.Wf) (lj:R.Nm)
include w lj
theorem aa2{m:Nat->PR Ty}(i:Good m R 0){d c:Bool}{a:cC}(x:(c=A'->d=A')/\(a≠[]->c=A')){s B:Nat}{u:jj}(Q:s<j' R.ts)(h:jk m R d c a s=.ok u B):vp u/\jf u+s<=B/\B<j' R.ts:=by
 rw[jk]at h;split at h
 ·cases h
 rename_i T q1 C;obtain⟨r,rfl,n⟩:=Nx w lj C;split at h
 ·cases h
 rename_i j q2 t;obtain⟨f,p,U,z⟩:=LB w (P:=λH=>∀e∈H,e.b=cY/\e.vr<=2/\eC e.n=A') (M:=j') (afs w lj) n (λe b=>by cases b) t;simp only[aiA]at p;split at h
 ·cases h
 rename_i k q3 D;obtain⟨L,V,P,q⟩:=aa0 w i (XB w lj) z D;split at h
 ·cases h
 rename_i up q4 E;obtain⟨M,O,S,A⟩:=aa0 w i (sU w lj) q E;obtain⟨F,g,rfl⟩:=dY h;obtain⟨o,g⟩:=rY w A g;obtain⟨y,J,I,v⟩:=i _ _ _ (ait _) o g;have N:cM uk=1:=rfl;have K:cM cY=1:=rfl;refine⟨⟨?_,?_,y,aa1 w lj,λe b=>⟨by rw[(f e b).1];exact sU w lj,(f e b).2.2⟩,?_,x,.inl ⟨Z,r,Z,Z,Z,λe b=>⟨(f e b).1,(f e b).2.1⟩⟩⟩,?_,v⟩
 ·all_goals grind
 ·all_goals grind
 ·have:=w.len;show (j' j)<4294967296;omega
 by_cases l:(k.1||up.1)=A'
 ·rw[X' l,X' l];have G:jf ⟨0,T,d,c,a,j,k.2,up.2,F,mw,[],[]⟩<=1+j' j+(cM F+(cM k.2+cM up.2)):=by
   all_goals grind [jf]
  all_goals grind
 grind [Qq]
theorem aa3{l:Nat->PR Ty}(k:Good l R 0){j:Nat->PR Ex}(a:fZ j R 0){e c:Bool}{b:cC}(z:(c=A'->e=A')/\(b≠[]->c=A')){u C:Nat}{x:jj}(H:u<j' R.ts)(h:lF l j R e c b u=.ok x C):vp x/\jf x+u<=C/\C<j' R.ts:=by
 rw[lF]at h;split at h
 ·cases h
 rename_i M q1 D;obtain⟨t,rfl,n⟩:=Ny w lj D;split at h
 ·cases h
 rename_i s q2 v;obtain⟨g,p,J,B⟩:=LB w (P:=λm=>∀d∈m,hO d.b/\d.vr=0/\eC d.n=A') (M:=λm=>j' m+oy m) (aft w lj k) n (λd a=>by cases a) v;simp only[aiA,oy]at p;split at h
 ·cases h
 rename_i N q3 i;have⟨r,i⟩:=rY w B i;have⟨A,G,K,y⟩:=k _ _ _ (ait _) r i;obtain⟨d,f,rfl⟩:=dY h;have⟨o,f⟩:=rY w y f;have⟨E,I,F,q⟩:=a _ _ _ (ait _) o f;refine⟨⟨sU w lj,sU w lj,A,E,λd a=>⟨(g d a).1,(g d a).2.2⟩,?_,z,.inr (.inl ⟨Z,t,Z,Z,Z,Z,λd a=>(g d a).2.1⟩)⟩,?_,q⟩
 ·have:=w.len;show (j' s)<4294967296;omega
 grind [yA]
def LC{f a:Nat}{b:cC}(h:gF R f=.ok b a):(c8 b=A'∨eC b=A')/\a=f+1/\a<j' R.ts:=by
 rw[gF]at h;split at h
 ·have⟨e,c,d⟩:=Nx w lj h;exact⟨.inr e,c,d⟩
 have⟨e,c,d⟩:=Ny w lj h;exact⟨.inl e,c,d⟩
theorem aa4{c b:Bool}{a:cC}(n:(b=A'->c=A')/\(a≠[]->b=A')){l q:Nat}{m:jj}(s:l<j' R.ts)(h:kA R c b a l=.ok m q):vp m/\jf m+l<=q/\q<j' R.ts:=by
 rw[kA]at h;split at h
 ·cases h
 rename_i x q1 r;obtain⟨k,rfl,i⟩:=Ny w lj r;split at h
 ·cases h
 rename_i t q2 d;obtain⟨g,d⟩:=rY w i d;obtain⟨j,rfl,g⟩:=LC w lj d;obtain⟨v,e,rfl⟩:=dY h;obtain⟨f,e⟩:=rY w g e;obtain⟨o,rfl,f⟩:=LC w lj e;refine⟨⟨sU w lj,sU w lj,sU w lj,aa1 w lj,(λu p=>by cases p),(by show 0<4294967296;decide),n,.inr (.inr ⟨Z,Z,Z,Z,Z,Z,k,o,j⟩)⟩,?_,f⟩
 grind [jf]
theorem adh{j g:Nat}{h:Bool×Bool×cC}(f:j<j' R.ts)(e:kl R j=.ok h g):((h.2.1=A'->h.1=A')/\(h.2.2≠[]->h.2.1=A'))/\j<=g/\g<j' R.ts:=by
 rw[kl]at e;split at e
 ·rename_i c;have a:=w.step f c;split at e
  ·rename_i b;have d:=w.step a b;obtain⟨k,i,rfl⟩:=dY e;have⟨m,l⟩:=kK w dc d i
   grind
  grind
 grind
def adi{f:Nat->PR Ty}(g:Good f R 0){d:Nat->PR Ex}(m:fZ d R 0){o n:Nat}{j:jj}(k:o<j' R.ts)(h:km f d R o=.ok j n):vp j/\jf j+o<=n/\n<j' R.ts:=by
 rw[km]at h;split at h
 ·cases h
 rename_i q r l;have⟨c,s,b⟩:=adh w lj k l;split at h
 ·rename_i a;have⟨e,p,i⟩:=aa2 w lj g c (w.step b a) h;exact⟨e,om,i⟩
 split at h
 ·rename_i a;have⟨e,p,i⟩:=aa3 w lj g m c (w.step b a) h;exact⟨e,om,i⟩
 split at h
 ·rename_i a;have⟨e,p,i⟩:=aa4 w lj c (w.step b a) h;exact⟨e,om,i⟩
 cases h
theorem UQ{d c:Nat}{e:cC}(a:j' R.ts<=65537)(b:d<j' R.ts)(h:gj R d=.ok e c):fQ e=A'/\d<c/\c<j' R.ts:=by
 have⟨g,f⟩:=(zX w lj a).lt _ _ _ b h;all_goals grind [gj]
theorem Tn(f:j' R.ts<=65537):∀(l:Nat) (k:n_ ux) (e:Nat) (a:n_ ux) (j:Nat),e<j' R.ts->(∀c∈k,fQ c.p=A'/\c8 c.a=A')->eI R l k e=.ok a j->(∀c∈a,fQ c.p=A'/\c8 c.a=A')/\j' a+e<=j' k+j/\j<j' R.ts:=by
 intro l;induction l with
 |zero=>intro k e a j _ _ h;cases h
 |succ l q=>
  intro k e a j g i h;rw[eI]at h;split at h
  ·rename_i n;split at h
   ·cases h
   rename_i B q1 b;rw[gG]at b;split at b
   ·cases b
   rename_i s q2 p;have⟨v,A,y⟩:=UQ w lj f (w.step g n) p;obtain⟨z,d,rfl⟩:=dY b;have⟨t,d⟩:=rY w y d;obtain⟨o,rfl,m⟩:=Ny w lj d;obtain⟨u,x,r⟩:=q _ _ _ _ m (λc hx=>by
    rcases aiH.1 hx with hx|hx
    ·exact i c hx
    rw[aiK]at hx;subst hx;exact⟨v,o⟩) h
   grind [aiz,aiB,aiA]
  cases h;exact⟨i,aiy _,g⟩
theorem aa5{g:Nat->PR Ty}(m:Good g R 0){d:Nat->PR Ex}(hx:fZ d R 0):∀(j:Nat) (c:n_ jj) (a:n_ Nat) (f:Nat) (b:n_ jj×n_ Nat) (i:Nat),f<j' R.ts->(∀e∈c,vp e)->j' a=j' c->ja g d R j c a f=.ok b i->(∀e∈b.1,vp e)/\j' b.2=j' b.1/\jg b.1+f<=jg c+i/\i<j' R.ts:=by
 intro j;induction j with
 |zero=>intro c a f b i _ _ _ h;cases h
 |succ j t=>
  intro c a f b i o q p h;rw[ja]at h;split at h
  ·split at h
   ·cases h
   rename_i u q1 s;have⟨v,y,x⟩:=adi w lj m hx o s;obtain⟨l,r,k,n⟩:=t _ _ _ _ _ x (λe hx=>by
     rcases aiH.1 hx with hx|hx
     ·exact q e hx
     rw[aiK]at hx;subst hx;exact v) (by simp[p]) h
   rw[Ha,show jg [u]=jf u by simp[jg]]at k;exact⟨l,r,om,n⟩
  grind
def To{d:Nat->PR Ty}(i:Good d R 0){c:Nat->PR Ex}(a:fZ c R 0)(x:j' R.ts<=4097){v y:Nat}{e:Da×n_ Nat}(l:v<j' R.ts)(h:rR d c R v=.ok e y):Xs e.1/\j' e.2=j' e.1.ds/\y<j' R.ts:=by
 rw[rR]at h;split at h
 ·cases h
 rename_i s q1 b;have⟨f,b⟩:=rY w l b;have⟨r,B,m⟩:=UQ w lj om f b;split at h
 ·cases h
 rename_i p q3 q;obtain⟨j,g,n⟩:=Tn w lj om _ _ _ _ _ m (λz a=>by cases a) q;obtain⟨A,t,rfl⟩:=dY h;obtain⟨k,o,d4,u⟩:=aa5 w lj i a _ _ _ _ _ _ n (λz a=>by cases a) rfl t;simp only[aiA]at g;have C:jg []=0:=rfl;refine⟨⟨?_,r,j,k⟩,o,u⟩;show 1+j' p+jg A.1<=4096;omega
end
def Ve(d:cC)(g:∀ts,k5 d=.ok ts->j' ts<=4097){c:VS}{h:dt->VS->Prop}(e:∀i,Tk d i->h i c):b7 C cm vx [cv d] c h:=by
 refine b7.closed (Tl d λts m l b f=>?_) Z e;have⟨w,a⟩:=BG (R:=⟨0,0,ts⟩) b;have lj:=BJ (R:=⟨0,0,ts⟩) b;have⟨k,j,_⟩:=To w lj (um w lj _) (GY w lj _ 0) (g _ b) a f;exact⟨k,j⟩
def ah6:Nat->Bool:=λa=>ai3 a 23
def rpS(c:n_ V)(a:n_ cP):VS:=[.box c,.row 5 (a.map λb=>b.map V.d)]
def rpT(a:Nat×n_ cP):Tm:=[(1,.bp 0 0),(3,.ms 1 5 0 (j' a.2) (j' a.2)),(4,cl a.1)]
def TN{c:Nat->Nat}(a:n_ cP)(b:cP):q' (cX.row 5 (aiW (j' a) (aiY 0 (aiT (λb=>aiT V.d b) a))++[b.map V.d]))=q' (eb c (.row 5 (aiT (λb=>aiT V.d b) (a++[b])))):=by
 rw[k9,aiM,aiv sm];simp
def Yo(c:Nat)(a:n_ cP)(b:cP):q' (V.ms c 5 0 (j' a+1) (j' a+1))=q' (V.ms c 5 0 (j' (a++[b])) (j' (a++[b]))):=by simp
def UR(c:Nat)(a:n_ cP):q' (V.ms c 5 0 (0+j' (aiT (λb=>aiT V.d b) a)) (0+j' (aiT (λb=>aiT V.d b) a)))=q' (V.ms c 5 0 (j' a) (j' a)):=by simp
def Nz(w:Nat)(z y:cC)(b:n_ Ty)(a:n_ oK)(E F:D)(A:ft b E)(c:uz a F)(I:j' b+j' a<4294967296):
  b7 C cm pX [.agg (zT w z y E F)] [] λB u=>u=[]/\da B=A'/\∃G,NZ (b++fa a) G/\B=.ret (.d G):=by
 refine cB ah6 (λ_=>Z) ?_;cases A with
 |nil=>
  refine a6 ⟨Z,Z,aiy _,aiy _,aiG Z,aiG Z⟩ ?_;cases c with
  |nil=>
   refine ck.loop ?_;refine kF (els:=[]) 0 _ sm ?_ ?_
   ·exact Z
   simpa [fa]using dZ.nil
  |ps c=>
   rename_i r q g i;have d:=c.len;refine ck.iter rpT (λx=>rpS (zT w z y .cu (.ps r q 7 g i)) x.2) (λx=>j' a-x.1) (λx=>x.1<=j' a/\dZ ([]++fa (a.take x.1)) x.2) ?_ (0,[]) ⟨ait _,by simpa [fa]using dZ.nil⟩;rintro⟨j,acc⟩ ⟨m,sX⟩;have m:j<=j' a:=m;have sX:dZ ([]++fa (a.take j)) acc:=sX;have e:=sX.len;rw[aiz,fa,aiC,aiF]at e;try simp only[aiA]at e
   apply aZ<;>intro o
   ·have nH:j<j' a:=d▸eK o;have⟨x,hx,_,_,n⟩:=c.get nH;have Aj:dZ ([]++fa (a.take (j+1))) (acc++[x.ty]):=by rw[yt nH,<-aiO];exact sX.snoc n
    exact IW
   have nH:j' a<=j:=d▸dK o;exact xR
 |ps h s=>
  rename_i J H t l;cases l with
  |nil=>exact Y' rfl s
  |cons k f=>
   have v:=h.len;have p:j' f+1<4294967296:=by simp only[aiB]at v;omega
   refine a6 Z (a6 ⟨Z,Z,aiy _,aiy _,ys k f p⟩ ?_);refine a7 Z (a7 Z ?_);cases c with
   |nil=>
    refine ck.loop ?_;refine kF (els:=(k::f)) 1 _ sm ?_ ?_
    ·exact Z
    simpa [fa]using h
   |ps c=>
    rename_i r q g i;have d:=c.len;refine ck.iter rpT (λx=>rpS (zT w z y (.ps J H 5 t (k::f)) (.ps r q 7 g i)) x.2) (λx=>j' a-x.1) (λx=>x.1<=j' a/\dZ (b++fa (a.take x.1)) x.2) ?_ (0,(k::f)) ⟨ait _,by simpa [fa]using h⟩ (.pick 1 [0,2] ⟨Z,UR 2 (k::f),Z,tv⟩ Z Z Z Z Z dc ⟨Z,Z,zU k f,fU _ _ _,tv⟩);rintro⟨j,acc⟩ ⟨m,sX⟩;have m:j<=j' a:=m;have sX:dZ (b++fa (a.take j)) acc:=sX;have e:=sX.len;rw[aiz,fa,aiC,aiF]at e;try simp only[aiA]at e
    apply aZ<;>intro o
    ·have nH:j<j' a:=d▸eK o;have⟨x,hx,_,_,n⟩:=c.get nH;have Aj:dZ (b++fa (a.take (j+1))) (acc++[x.ty]):=by rw[yt nH,<-aiO];exact sX.snoc n
     exact IW
    have nH:j' a<=j:=d▸dK o;exact xR
def xA(n:Ty)(c:cP)(e:fF n c)(k:cM n<4294967296){d:VS}{o:dt->VS->Prop}(f:∀c,NZ (eJ n) c->o (.ret (.d c)) d):b7 C cm pX [.agg (c.map V.d)] d o:=by
 cases e with
 |mk m i=>
  rename_i g l j b a r s;have t:=ey (eJ (.mk g l j b a));rw[gz]at k;have q:j' (eJ (.mk g l j b a))=j' b+j' a:=by simp[eJ,fa]
  exact b7.closed (P:=λp=>∃c,NZ (b++fa a) c/\p=.ret (.d c)) (Nz g l j b a r s m i om) Z λp ⟨c,h,u⟩=>by rw[u];exact f c h
def NA(q:Nat)(t:∀(c:Ty) (g:cP),cM c<=q->fF c g->∀{n:VS} {u:dt->VS->Prop},u (.ret (cl (px c))) n->b7 C cm jL [.agg (g.map V.d)] n u) 
  (c:Ty) (g:cP) (F:cM c<=q+1) (M:q<4294967295) (i:fF c g):b7 C cm jL [.agg (g.map V.d)] [] λA m=>m=[]/\A=.ret (cl (px c)):=by
 obtain⟨I,K,r,E,H,rfl⟩:=i.dL;have x:=gz c;refine cD ?_;refine xA c _ i om (λg l=>?_);rw[vh];have j:cQ (eJ c)<=q:=om;generalize eJ c=b at l j;have v:=ey b;cases l with
 |nil=>
  exact iH
 |ps h=>
  rename_i J G k o;have e:=h.len;refine ck.iter (λd:Nat=>[(3,cl (hJ (b.take d))),(4,.d (.ps J G 5 k o)),(5,cl d)]) (λ_=>[.box (zT I K r E H)]) (λd=>j' b-d) (λd=>d<=j' b) ?_ 0 (ait _);intro d L;apply aZ<;>intro p
  ·have a:d<j' b:=e▸eK p;have⟨g,s,f⟩:=h.get a;refine bZ Z ?_;obtain⟨N,B,w,O,f2,rfl⟩:=f.dL;refine cp _ (by rw[cx];exact s) ?_;have z:=eU (aiw a);refine t b[d] _ om f ?_;refine⟨d+1,a,ik,.drop 1 ⟨int_eq ?_,Z,int_eq (cF om),tv⟩ Z Z Z Z Z Z Z,Z,Z⟩;rw[BH a];exact nj
  have a:j' b<=d:=e▸dK p;rw[aiv a];have y:=GM b;exact Cl
def Qy:∀(d:Nat) (a:Ty) (c:cP),d<4294967295->cM a<=d->fF a c->∀{b:VS} {g:dt->VS->Prop},g (.ret (cl (px a))) b->b7 C cm jL [.agg (c.map V.d)] b g:=by
 intro d;induction d with
 |zero=>intro a c _ h;have:=jm a;omega
 |succ d i=>
  intro a c m h e b g f;obtain⟨o,p,l,q,n,rfl⟩:=e.dL;exact cI (NA d (λa c k j=>i a c om k j) a _ h om e) Z Z f
def Qz(q:Nat)(t:∀(d:Ty) (g:cP),cM d<=q->fF d g->∀{n:VS} {u:dt->VS->Prop},u (.ret (cl (cM d))) n->b7 C cm j3 [.agg (g.map V.d)] n u) 
  (d:Ty) (g:cP) (E:cM d<=q+1) (M:q<4294967295) (i:fF d g):b7 C cm j3 [.agg (g.map V.d)] [] λz m=>m=[]/\z=.ret (cl (cM d)):=by
 obtain⟨H,J,r,B,G,rfl⟩:=i.dL;have x:=gz d;refine cD ?_;refine xA d _ i om (λg l=>?_);rw[gz];have j:cQ (eJ d)<=q:=om;generalize eJ d=b at l j;have v:=ey b;cases l with
 |nil=>
  exact iH
 |ps h=>
  rename_i I F k o;have e:=h.len;refine ck.iter (λc:Nat=>[(3,cl (1+cQ (b.take c))),(4,.d (.ps I F 5 k o)),(5,cl c)]) (λ_=>[.box (zT H J r B G)]) (λc=>j' b-c) (λc=>c<=j' b) ?_ 0 (ait _);intro c L;apply aZ<;>intro p
  ·have a:c<j' b:=e▸eK p;have⟨g,s,f⟩:=h.get a;refine bZ Z ?_;obtain⟨N,A,w,O,f2,rfl⟩:=f.dL;refine cp _ (by rw[cx];exact s) ?_;have y:=eU (aiw a);refine t b[c] _ om f ?_;refine⟨c+1,a,ik,.drop 1 ⟨int_eq ?_,Z,int_eq (cF om),tv⟩ Z Z Z Z Z Z Z,Z,Z⟩;have K:=ou b c;rw[sO a,<-ai5];exact dk om
  have a:j' b<=c:=e▸dK p;rw[aiv a]
  skip
  refine a8 0 ⟨Z,?_⟩;exact d_ dt.ret (d_ V.d (d_ (D.int .i64) (by rw[Nat.add_comm])))
def lK:∀(d:Nat) (a:Ty) (c:cP),d<4294967295->cM a<=d->fF a c->∀{b:VS} {g:dt->VS->Prop},g (.ret (cl (cM a))) b->b7 C cm j3 [.agg (c.map V.d)] b g:=by
 intro d;induction d with
 |zero=>intro a c _ h;have:=jm a;omega
 |succ d i=>
  intro a c m h e b g f;obtain⟨o,p,l,q,n,rfl⟩:=e.dL;exact cI (Qz d (λa c k j=>i a c om k j) a _ h om e) Z Z f
theorem vL(c b:cC)(h:cS c b=A'){a:VS}{f:dt->VS->Prop}(d:f (.ret (cl 0)) a):b7 C cm r6 [cv c,cv b] a f:=by
 have e:c≠b:=by rintro rfl;rw[MW]at h;cases h
 have g:cS b c=B':=by
  grind [MW,zQ]
 refine cA ?_;refine a7 (Z' e) ?_;refine a7 (by rw[h];try rfl) ?_;exact d
def qV(c:cC)(h:c=[]∨c8 c=A'){d:VS}{e:dt->VS->Prop}(b:e (.ret (cj A')) d):b7 C cm vU [cv c] d e:=by
 refine cA ?_;by_cases a:c=[]
 ·subst a;exact b
 have h:=h.resolve_left a;repeat refine a7 (Z' a) ?_
 refine fC c (nL h) ?_;rw[h];repeat refine a7 (Z' a) ?_
 exact b
def QA(L:Ty)(K:cP)(o:fF L K)(M:qB L)(B:cM L<4294967296):b7 C cm ns [.agg (K.map V.d)] [] λT E=>E=[]/\T=.ret (cl (xk (r7 L))):=by
 refine cD ?_;cases M with
 |@base k W=>
  cases o with
  |mk f b=>
   obtain rfl:=f.dB;have x:k=0∨k=1∨k=2∨k=3∨k=4:=om;rcases x with rfl|rfl|rfl|rfl|rfl<;>rcases b.dB with rfl|⟨v,u,g,rfl⟩<;>iterate 3 refine ck.loop ?_
   all_goals exact a8 0 ⟨rfl,rfl⟩
 |list=>
  cases o with
  |mk f b=>
   obtain⟨ab,U,y,K,rfl⟩:=f.pE;rcases b.dB with rfl|⟨v,u,g,rfl⟩<;>iterate 3 refine ck.loop ?_
   all_goals exact a8 0 ⟨rfl,rfl⟩
 |@ref Q aa d H G=>
  have O:=(GO B).2;cases o with
  |mk f b=>
   rcases b.dB with rfl|⟨v,u,g,rfl⟩<;>cases f<;>refine ck.loop ?_;all_goals
    first
     |refine qV Q H ?_
     |have s:= ‹dZ d _›.len
      apply aZ<;>intro c
      ·refine cN ?_;exact a8 0 ⟨Z,by rw[r7,a_ (p:=8<j' d) (s▸eK (a:=8) c),ajc];try rfl⟩
      have m:j' d<=8:=s▸dK (a:=8) c;refine cN ?_;refine qV Q H ?_
    refine kP aa (PQ G) ?_;rw[G];iterate 2 refine ck.loop ?_
    first
     |exact a8 0 ⟨rfl,rfl⟩
     |exact a8 0 ⟨rfl,by rw[r7,Z' (p:=8<j' d) om];try rfl⟩
 |ZU h|vrt h|func h=>
  rename_i a;have t:=h.lM;cases o with
  |mk f b=>
   first
    |obtain rfl:=f.dB
    |obtain⟨ab,U,y,K,rfl⟩:=f.pE
   cases b with
   |nil=>
    iterate 3 refine ck.loop ?_
    exact a8 0 ⟨Z,Z⟩
   |@ps v u g _ N b=>
    have e:=b.len;have R:=(GO B).1;refine yB (λi:Nat=>[(1,.bp 0 0),(5,cl i)]) (λi=>j' a-i) (λi=>i<=j' a) (λi F=>?_) 0 (ait _);apply aZ<;>intro c
    ·have hi':i<j' a:=e▸eK c;have⟨w,l,j,n,r⟩:=b.get hi';refine bZ Z ?_;refine cp (fe w) (by rw[cx];exact l) ?_;apply aZ<;>intro z<;>first|(rw[<-n,t rfl _ (aiw hi')]at z;cases z;done)|((repeat refine Ae ?_);exact⟨i+1,hi',ik,.eS,rfl,rfl⟩)
    apply aZ<;>intro c
    ·have m:32<j' a:=e▸eK (a:=32) c;refine cN ?_;exact a8 0 ⟨Z,by rw[r7,a_ m];try rfl⟩
    have m:j' a<=32:=e▸dK (a:=32) c;refine cN ?_;refine yB (λi:Nat=>[(1,.bp 0 0),(6,cl i)]) (λi=>j' a-i) (λi=>i<=j' a) (λi F=>?_) 0 (ait _);apply aZ<;>intro c
    ·have hi':i<j' a:=e▸eK c;have⟨w,l,j,n,r⟩:=b.get hi';have lj:=h.name _ (aiw hi');rw[j]at lj;refine bZ Z ?_;refine cp (fe w) (by rw[cx];exact l) ?_;refine fC w.n (nL lj) ?_;rw[lj];exact lQ
    refine yB (λi:Nat=>[(1,.bp 0 0),(7,cl i)]) (λi=>j' a-i) (λi=>1<=i) (λi F=>?_) 1 (aiy _);apply aZ<;>intro c
    ·have hi':i<j' a:=e▸eK c;have q:i-1<j' a:=om;have⟨w,l,j,n,r⟩:=b.get q;have⟨Y,D,A,S,P⟩:=b.get hi';have p:=h.srt.rN (aix q) (aix hi') om;rw[j,A]at p;rw[<-cx]at l D;have I:=yu (a:=i) om om;repeat first|refine bZ I ?_|refine bZ rfl ?_|refine cp _ l ?_|refine cp _ D ?_|refine cO ?_
     refine vL w.n Y.n p ?_;refine db ?_;exact⟨i+1,by show 1<=i+1;omega,ik,.eS,Z,Z⟩
    exact a8 0 ⟨Z,by rw[r7,Z' om];try rfl⟩
def Tp(b:Ty)(d:cP)(a:fF b d)(e:qB b)(f:cM b<4294967296){c:VS}{g:dt->VS->Prop}(hk:g (.ret (cl (xk (r7 b)))) c):b7 C cm ns [.agg (d.map V.d)] c g:=by
 have h0:=QA b d a e f;obtain⟨j,k,h,l,i,rfl⟩:=a.dL;exact nk
def QB(z:Nat)(D:∀(b:Ty) (o:cP),cM b<=z->fF b o->hO b->∀{w:VS} {E:dt->VS->Prop},E (.ret (cl (xk (tb b)))) w->b7 C cm j5 [.agg (o.map V.d)] w E) 
  (b:Ty) (o:cP) (s:cM b<=z+1) (T:z<4294967295) (n:fF b o) (p:hO b):b7 C cm j5 [.agg (o.map V.d)] [] λJ v=>v=[]/\J=.ret (cl (xk (tb b))):=by
 obtain⟨P,R,A,L,O,rfl⟩:=n.dL;have H:=gz b;cases p with
 |mk p j=>
 refine cD ?_;refine Tp b _ n p om ?_;rw[zS];cases M:r7 b with
 |true=>
  refine a8 0 ⟨Z,Z⟩
 |false=>
  rw[ai7];refine xA b _ n om (λo u=>?_);have r:cQ (eJ b)<=z:=om;generalize eJ b=a at u r j;have F:=ey a;cases u with
  |nil=>
   exact CA
  |ps h=>
   rename_i Q N t x;have k:=h.len;refine ck.iter (λd:Nat=>[(4,.d (.ps Q N 5 t x)),(5,cl d)]) (λ_=>[.box (zT P R A L O)]) (λd=>j' a-d) (λd=>d<=j' a/\∀f (g:f<j' a),f<d->tb a[f]=B') ?_ 0 ⟨ait _,λf _ h=>Y' h (ai2 _)⟩;rintro d ⟨S,i⟩;apply aZ<;>intro y
   ·have e:d<j' a:=k▸eK y;have⟨o,B,m⟩:=h.get e;refine bZ Z ?_;obtain⟨U,K,G,W,f2,rfl⟩:=m.dL;refine cp _ (by rw[cx];exact B) ?_;have c:a[d]∈a:=aiw e;have I:=eU c;refine D a[d] _ om m (j _ c) ?_;cases l:tb a[d]with
    |true=>
     rw[GQ c l];refine a8 0 ⟨Z,Z⟩
    |false=>
     refine⟨d+1,⟨e,λf g h=>?_⟩,ik,.eD 1,Z,Z⟩;rcases ai8 f d with h1|h1
     ·exact i f g h1
     obtain rfl:f=d:=om;exact l
   have e:j' a<=d:=k▸dK y;have q:qA a=B':=xl.2 λb s=>by
    obtain⟨f,g,rfl⟩:=ajf s;exact i f g om
   rw[q];refine a8 0 ⟨Z,Z⟩
def Tq:∀(d:Nat) (a:Ty) (b:cP),d<4294967295->cM a<=d->fF a b->hO a->∀{c:VS} {g:dt->VS->Prop},g (.ret (cl (xk (tb a)))) c->b7 C cm j5 [.agg (b.map V.d)] c g:=by
 intro d;induction d with
 |zero=>intro a b _ h;have:=jm a;omega
 |succ d i=>
  intro a b n h e f c g hk;have h0:=QB d (λa b k j l=>i a b om k j l) a b h om e f;obtain⟨p,q,m,r,o,rfl⟩:=e.dL;exact nk
def NB(b:Ty)(m:cP)(a:fF b m)(l:hO b)(e:cM b<4294967295):b7 C cm mq [.agg (m.map V.d)] [] λn i=>i=[]/\n=.ret (cl (xk (p3 b))):=by
 obtain⟨k,q,o,j,p,rfl⟩:=a.dL;refine cD ?_;refine lK _ b _ e (aiy _) a ?_;apply aZ<;>intro g
 ·have d:=eK (a:=4096) g;refine cN ?_;refine a8 0 ⟨Z,by rw[p3,a_ d,ai0,ai0];try rfl⟩
 have d:=dK (a:=4096) g;refine cN ?_;refine Qy _ b _ e (aiy _) a ?_;refine cN ?_;apply aZ<;>intro f
 ·have c:=eK (a:=32) f;refine cN ?_;refine a8 0 ⟨Z,by rw[p3,a_ c,ajc,ai0];try rfl⟩
 have c:=dK (a:=32) f;refine cN ?_;have h:p3 b=tb b:=by rw[p3,Z' om,Z' om];try rfl
 rw[h];refine Tq _ b _ e (aiy _) a l ?_;refine a8 0 ⟨Z,Z⟩
def D9(b:Ty)(d:cP)(a:fF b d)(e:hO b)(f:cM b<4294967295){c:VS}{g:dt->VS->Prop}(hk:g (.ret (cl (xk (p3 b)))) c):b7 C cm mq [.agg (d.map V.d)] c g:=by
 have h0:=NB b d a e f;obtain⟨j,k,h,l,i,rfl⟩:=a.dL;exact nk
def ah7:Prop:=∀(b:Ex) (c:cP),iz b c->fN b->dm b<4294967295->∀(a:VS) (d:dt->VS->Prop),d (.ret (cl (Dm b))) a->b7 C cm s4 [.agg (c.map V.d)] a d
def Hf{b:n_ ij}{a:Nat}(h:a<j' b):(b.take (a+1)).map ij.ty=(b.take a).map ij.ty++[b[a].ty]:=by
 rw[aiD,aix h,aiE];try rfl
def agZ:Nat->Bool:=λa=>ai3 a 26
def NC(k:Nat)(I H G:cC)(o:Int)(types:n_ Ty)(a:n_ ij)(A E t:D)(J:ft types A)(d:e9 a E)(M:j' types+j' a<4294967296):
  b7 C cm pY [Yi k I H G o A E t] [] λK B=>B=[]/\da K=A'/\∃w,NZ (types++if k=8 then a.map ij.ty else []) w/\K=.ret (.d w):=by
 refine cB agZ (λ_=>Z) ?_;cases J with
 |nil=>
  refine a6 ⟨Z,Z,aiy _,aiy _,aiG Z,aiG Z⟩ ?_;refine b9 Z ?_;apply aZ<;>intro p
  ·have b:=Dw (b:=8) p;refine cN ?_;rw[X' b];cases d with
   |nil=>
    refine ck.loop ?_;refine kF (els:=[]) 0 _ sm ?_ ?_
    ·exact Z
    simpa using dZ.nil
   |ps d=>
    rename_i v u l m;have e:=d.len;refine ck.iter rpT (λn=>rpS (qm k I H G o .cu (.ps v u 8 l m) t) n.2) (λn=>j' a-n.1) (λn=>n.1<=j' a/\dZ ([]++(a.take n.1).map ij.ty) n.2) ?_ (0,[]) ⟨ait _,by simpa using dZ.nil⟩;rintro⟨j,acc⟩ ⟨q,sX⟩;have q:j<=j' a:=q;have sX:dZ ([]++(a.take j).map ij.ty) acc:=sX;have g:=sX.len;rw[aiz,aiC,aiF]at g;try simp only[aiA]at g
    apply aZ<;>intro r
    ·have nH:j<j' a:=e▸eK r;have⟨w,hx,EI⟩:=d.get nH;have Aj:dZ ([]++(a.take (j+1)).map ij.ty) (acc++[w]):=by rw[Hf nH,<-aiO];exact sX.snoc EI
     exact IT
    have nH:j' a<=j:=e▸dK r;exact xR
  have b:=A7 (b:=8) p;refine cN ?_;rw[W' b,ai4];refine kF (els:=[]) 0 _ sm ?_ ?_
  ·exact Z
  simpa using dZ.nil
 |ps h x=>
  rename_i z L y f;cases f with
  |nil=>exact Y' rfl x
  |cons i c=>
   have F:=h.len;have s:j' c+1<4294967296:=by simp only[aiB]at F;omega
   refine a6 Z (a6 ⟨Z,Z,aiy _,aiy _,ys i c s⟩ ?_);refine a7 Z (a7 Z ?_);apply aZ<;>intro p
   ·have b:=Dw (b:=8) p;refine cN ?_;rw[X' b];cases d with
    |nil=>
     refine ck.loop ?_;refine kF (els:=(i::c)) 1 _ sm ?_ ?_
     ·exact Z
     simpa using h
    |ps d=>
     rename_i v u l m;have e:=d.len;refine ck.iter rpT (λn=>rpS (qm k I H G o (.ps z L 5 y (i::c)) (.ps v u 8 l m) t) n.2) (λn=>j' a-n.1) (λn=>n.1<=j' a/\dZ (types++(a.take n.1).map ij.ty) n.2) ?_ (0,(i::c)) ⟨ait _,by simpa using h⟩ (.pick 1 [0,2] ⟨Z,UR 2 (i::c),Z,tv⟩ Z Z Z Z Z dc ⟨Z,Z,zU i c,fU _ _ _,tv⟩);rintro⟨j,acc⟩ ⟨q,sX⟩;have q:j<=j' a:=q;have sX:dZ (types++(a.take j).map ij.ty) acc:=sX;have g:=sX.len;rw[aiz,aiC,aiF]at g;try simp only[aiA]at g
     apply aZ<;>intro r
     ·have nH:j<j' a:=e▸eK r;have⟨w,hx,EI⟩:=d.get nH;have Aj:dZ (types++(a.take (j+1)).map ij.ty) (acc++[w]):=by rw[Hf nH,<-aiO];exact sX.snoc EI
      exact IT
     have nH:j' a<=j:=e▸dK r;exact xR
   have b:=A7 (b:=8) p;refine cN ?_;rw[W' b,ai4];refine kF (els:=(i::c)) 1 _ sm ?_ ?_
   ·exact Z
   simpa using h
def Ea{e:Ex}{d:cP}(i:iz e d)(o:∀g r p l b types a c,e=.mk g r p l b types a c->j' types+j' a<4294967296){f:VS}{u:dt->VS->Prop}(m:∀d,NZ (ov e) d->u (.ret (.d d)) f):b7 C cm pY [.agg (d.map V.d)] f u:=by
 cases i with
 |mk j q w=>
  rename_i g r p l b types a c s t k;have n:=o _ _ _ _ _ _ _ _ rfl;exact b7.closed (P:=λv=>∃d,NZ (types++if g=8 then a.map ij.ty else []) d/\v=.ret (.d d)) (NC g r p l b types a s t k j q n) Z λv ⟨d,h,e⟩=>by rw[e];exact m d h
def Ix(r:Nat)(z:∀(g:Ex) (i:cP),dm g<=r->iz g i->∀{o:VS} {A:dt->VS->Prop},A (.ret (cl (ow g))) o->b7 C cm hG [.agg (i.map V.d)] o A) 
  (g:Ex) (i:cP) (T:dm g<=r+1) (W:r<4294967295) (s:iz g i):b7 C cm hG [.agg (i.map V.d)] [] λt c=>c=[]/\t=.ret (cl (ow g)):=by
 have k:=gT g;rw[Dc];cases s with
 |mk L Q n=>
  rename_i P S u O l types j a w x N;have F:dn a<=r:=by simp only[Ex.kids]at k;omega
  show b7 C cm hG [.agg _] [] λt c=>c=[]/\t=.ret (cl (ib a+1));have E:=lH a;refine cD ?_;cases n with
  |nil=>
   exact iH
  |ps h=>
   rename_i R M m p;have e:=h.len;refine ck.iter (λd:Nat=>[(1,.bp 0 0),(3,cl (ib (a.take d))),(4,cl d)]) (λ_=>[.box (qm P S u O l w x (.ps R M 8 m p))]) (λd=>j' a-d) (λd=>d<=j' a) ?_ 0 (ait _);intro d U;apply aZ<;>intro q
   ·have b:d<j' a:=e▸eK q;have⟨i,y,f⟩:=h.get b;refine bZ Z ?_;obtain⟨Y,K,aa,X,v,I,H,B,rfl⟩:=f.eight;refine cp _ (by rw[cx];exact y) ?_;have J:=mJ (aiw b);refine z a[d] _ om f ?_;refine⟨d+1,b,ik,.drop 1 ⟨Z,int_eq ?_,int_eq (cF om),tv⟩ Z Z Z Z Z Z Z,Z,Z⟩;rw[BK b];exact nj
   have b:j' a<=d:=e▸dK q;rw[aiv b];have G:=GV a;exact Cl
def ND:∀(d:Nat) (a:Ex) (c:cP),d<4294967295->dm a<=d->iz a c->∀{b:VS} {f:dt->VS->Prop},f (.ret (cl (ow a))) b->b7 C cm hG [.agg (c.map V.d)] b f:=by
 intro d;induction d with
 |zero=>intro a c _ h;have:=jn a;omega
 |succ d l=>
  intro a c r h e b f i;obtain⟨s,p,t,q,k,o,n,m,rfl⟩:=e.eight;exact cI (Ix d (λa c j g=>l a c om j g) a _ h om e) Z Z i
def NE(s:Nat)(ih:∀(e:Ex) (d:cP),dm e<=s->fN e->iz e d->∀{A:VS} {F:dt->VS->Prop},F (.ret (cl (dm e))) A->b7 C cm j4 [.agg (d.map V.d)] A F) 
  (e:Ex) (d:cP) (D:dm e<=s+1) (L:s<4294967294) (o:fN e) (l:iz e d):b7 C cm j4 [.agg (d.map V.d)] [] λK z=>z=[]/\K=.ret (cl (dm e)):=by
 have m:=gT e;have j:=λw y s v a types f kids (E:e=.mk w y s v a types f kids)=>BP o E om;have hkg:=o.kids;obtain⟨w,y,p,v,a,q,r,u,rfl⟩:=l.eight;refine cD ?_;refine Ea l j (λd n=>?_);have g:gn e.kids u:=by cases l;assumption
 have k:cQ (ov e)+dn e.kids<=s:=om;rw[m];generalize ov e=own at n k;generalize e.kids=kids at g k hkg;clear l o m D j;have G:=lH kids;have H:=ey own;have B:∀{J:Prop},J->J:=λh=>h;cases n with
 |nil=>
  refine ck.loop ?_;cases g with
  |nil=>
   exact iH
  |ps h=>
   rename_i x t b c;have N4:=h.len;refine ck.iter (λi:Nat=>[(1,.bp 0 0),(3,cl (1+cQ []+dn (kids.take i))),(6,cl i)]) (λ_=>[.box (qm w y p v a q r (.ps x t 8 b c))]) (λi=>j' kids-i) (λi=>i<=j' kids) ?_ 0 (ait _);exact IP
 |ps h=>
  rename_i x t b c;have N4:=h.len;refine ck.iter (λi:Nat=>[(1,.bp 0 0),(3,cl (1+cQ (own.take i))),(4,.d (.ps x t 5 b c)),(5,cl i)]) (λ_=>[.box (qm w y p v a q r u)]) (λi=>j' own-i) (λi=>i<=j' own) ?_ 0 (ait _);intro i hi;apply aZ<;>intro hc
  ·have hi':i<j' own:=N4▸eK hc;have⟨d,hx,EI⟩:=h.get hi';refine bZ Z ?_;obtain⟨k2,m2,I,M,f2,rfl⟩:=EI.dL;refine cp _ (by rw[cx];exact hx) ?_;have hle:=eU (aiw hi');refine lK _ own[i] _ om (aiy _) EI ?_;refine⟨i+1,hi',ik,.drop 1 ⟨Z,int_eq ?_,Z,int_eq (cF om),tv⟩ Z Z Z Z Z Z Z,Z,Z⟩;have h3:=ou own i;rw[sO hi',<-ai5];exact dk om
  have hi':j' own<=i:=N4▸dK hc;rw[aiv hi'];cases g with
  |nil=>
   exact iH
  |ps h=>
   rename_i x t b c;have N4:=h.len;refine ck.iter (λi:Nat=>[(1,.bp 0 0),(3,cl (1+cQ own+dn (kids.take i))),(6,cl i)]) (λ_=>[.box (qm w y p v a q r (.ps x t 8 b c))]) (λi=>j' kids-i) (λi=>i<=j' kids) ?_ 0 (ait _);exact IP
def xB:∀(d:Nat) (a:Ex) (c:cP),d<4294967295->dm a<=d->fN a->iz a c->∀{b:VS} {f:dt->VS->Prop},f (.ret (cl (dm a))) b->b7 C cm j4 [.agg (c.map V.d)] b f:=by
 intro d;induction d with
 |zero=>intro a c _ h;have:=jn a;omega
 |succ d n=>
  intro a c t h i e b f j;obtain⟨u,r,v,s,l,q,p,o,rfl⟩:=e.eight;exact cI (NE d (λa c k g m=>n a c om k g m) a _ h om i e) Z Z j
def ni(a:Nat):(!decide (ais a=ais a))=B':=by simp
def oP(a:Bool):(!decide (a=a))=B':=by simp
def jE(a:cC):(!decide (a=a))=B':=by simp
def Cc(I:Nat)(M:∀(P:Ty) (H n:cP),cM P<=I->fF P H->fF P n->∀{b:VS} {q:dt->VS->Prop},q (.ret (cj A')) b->b7 C cm eR [.agg (H.map V.d),.agg (n.map V.d)] b q) 
  (f:n_ Ty) (T v:D) (X:cQ f<=I) (aa:I<4294967295) (N:ft f T) (j:ft f v) {b:VS} {q:dt->VS->Prop} (s:q (.ret (cj A')) b):b7 C cm hU [.d T,.d v] b q:=by
 refine cA ?_;have S:=ey f;cases N with
 |nil=>
  cases j with
  |ps h c=>cases h;exact Y' rfl c
  |nil=>
   refine ck.loop ?_;exact s
 |ps h c=>
  cases j with
  |nil=>cases h;exact Y' rfl c
  |ps t R=>
   rename_i Y W w e B J l a;have o:=h.len;have G:=t.len;have O:(!decide (ais (j' e)=ais (j' a)))=B':=by rw[o,G];exact ni _
   refine a7 O ?_;refine ck.iter (λi:Nat=>[(0,.d (.ps Y W 5 w e)),(1,.d (.ps B J 5 l a)),(5,cl i)]) (λ_=>b) (λi=>j' f-i) (λi=>i<=j' f) ?_ 0 (ait _);intro i ab;apply aZ<;>intro x
   ·have hi':i<j' f:=o▸eK x;have⟨H,K,g⟩:=h.get hi';have⟨n,p,d⟩:=t.get hi';have U:=eU (aiw hi');obtain⟨L,z,u,Q,f2,rfl⟩:=g.dL;obtain⟨E,A,r,F,f3,rfl⟩:=d.dL;have y:nth e i=q' [.int .i64 (ais L),.str z,.str u,Q,f2]:=by rw[cx];exact K
    have m:nth a i=q' [.int .i64 (ais E),.str A,.str r,F,f3]:=by rw[cx];exact p
    repeat first|refine bZ rfl ?_|refine cp _ y ?_|refine cp _ m ?_
    refine db ?_;refine M f[i] _ _ om g d ?_;refine db ?_;exact xW
   have hi':j' f<=i:=o▸dK x;exact s
def XC(n:Nat)(ih:∀(v:Ty) (A l:cP),cM v<=n->fF v A->fF v l->∀{D:VS} {U:dt->VS->Prop},U (.ret (cj A')) D->b7 C cm eR [.agg (A.map V.d),.agg (l.map V.d)] D U) 
  (v:Ty) (A l:cP) (J:cM v<=n+1) (ap:n+1<4294967295) (H:fF v A) (E:fF v l):b7 C cm eR [.agg (A.map V.d),.agg (l.map V.d)] [] λah B=>B=[]/\ah=.ret (cj A'):=by
 cases H with
 |mk ha O=>
  rename_i X ad x args b a ax;cases E with
  |mk ha' q=>
   rename_i a' ao;have aa:cQ args+rT b<=n:=by simp only[cM]at J;omega
   have Y:=py b;have ae:j' b<=cQ (fa b):=by have:=ey (fa b);rwa[show(fa b).length=j' b from by simp[fa]]at this
   refine cD ?_;repeat first|refine a7 (ni _) ?_|refine a7 (jE _) ?_|refine a7 (oP _) ?_
   cases O with
   |nil=>
    cases q with
    |nil=>
     exact Cb
    |ps p=>
     cases p;exact Cb
   |ps h=>
    cases q with
    |nil=>
     cases h;exact Cb
    |ps p=>
     rename_i an al z m K Q t c;have u:=h.len;have N:=p.len;have S:(!decide (ais (j' m)=ais (j' c)))=B':=by rw[u,N];exact ni _
     repeat first|refine a7 (ni _) ?_|refine a7 (jE _) ?_|refine a7 S ?_
     refine ck.iter (λi:Nat=>[(2,.bp 0 0),(3,.bp 1 0),(5,cl i)]) (λ_=>[.box (zT X ad x a (.ps an al 7 z m)),.box (zT X ad x a' (.ps K Q 7 t c))]) (λi=>j' b-i) (λi=>i<=j' b) ?_ 0 (ait _);intro i aq;apply aZ<;>intro G
     ·have hi':i<j' b:=u▸eK G;obtain⟨W,R,g,j,s⟩:=h.get hi';obtain⟨ab,P,f,k,r⟩:=p.get hi';have e:nth m i=q' (fe W):=by rw[cx];exact R
      have d:nth c i=q' (fe ab):=by rw[cx];exact P
      have o:cM b[i].2.1<=cQ (fa b):=eU (aiV (aiw hi'));generalize b[i]=ai at g j s f k r o;obtain⟨I,ar,am,ac,ag,ak,T⟩:=W;obtain⟨L,au,av,af,aw,aj,M⟩:=ab;obtain⟨F,y,w⟩:=ai;have g:F=I:=g;have f:F=L:=f;have j:w=T:=j;have k:w=M:=k;have o:cM y<=cQ (fa b):=o;subst g f j k;repeat first|refine bZ rfl ?_|refine cp _ e ?_|refine cp _ d ?_|refine a7 (jE _) ?_|refine a7 (oP _) ?_
      repeat refine a6 (by repeat' (first|exact tv|exact rfl|refine bZ rfl ?_|refine bZ rfl ?_|refine cp _ e ?_|refine cp _ d ?_|refine a7 (jE _) ?_|refine a7 (oP _) ?_|refine aiP ?_ ?_)) ?_
      repeat first|refine a7 (ni _) ?_|refine a7 (jE _) ?_|refine a7 (oP _) ?_
      refine ih y _ _ om s r ?_;repeat refine a6 (by repeat' (first|exact tv|exact rfl|refine bZ rfl ?_|refine bZ rfl ?_|refine cp _ e ?_|refine cp _ d ?_|refine a7 (jE _) ?_|refine a7 (oP _) ?_|refine aiP ?_ ?_)) ?_
      repeat first|refine a7 (ni _) ?_|refine a7 (jE _) ?_|refine a7 (oP _) ?_
      repeat refine a6 (by repeat' (first|exact tv|exact rfl|refine bZ rfl ?_|refine bZ rfl ?_|refine cp _ e ?_|refine cp _ d ?_|refine a7 (jE _) ?_|refine a7 (oP _) ?_|refine aiP ?_ ?_)) ?_
      repeat first|refine a7 (ni _) ?_|refine a7 (jE _) ?_|refine a7 (oP _) ?_
      exact xW
     have hi':j' b<=i:=u▸dK G;refine Cc n ih args a a' om om ha ha' ?_;refine a8 0 ⟨Z,Z⟩
def p6:∀(f:Nat) (b:Ty) (d a:cP),f<4294967295->cM b<=f->fF b d->fF b a->∀{e:VS} {i:dt->VS->Prop},i (.ret (cj A')) e->b7 C cm eR [.agg (d.map V.d),.agg (a.map V.d)] e i:=by
 intro f;induction f with
 |zero=>intro b d a _ h;have:=jm b;omega
 |succ f n=>
  intro b d a m h g c e i hk;have h0:=XC f (λb d a k j l=>n b d a om k j l) b d a h m g c;obtain⟨w,x,p,u,v,rfl⟩:=g.dL;obtain⟨r,t,o,q,s,rfl⟩:=c.dL;exact nk
def NF(a:Int):(!decide (a=a))=B':=by simp
def e9.inv2{c:n_ ij}{b:D}(h:e9 c b):∃a,od c a/\((a=[]/\b=.cu)∨∃d f e,b=.ps d f 8 e a):=by
 exact xK
def gn.inv2{c:n_ Ex}{b:D}(h:gn c b):∃a,ir c a/\((a=[]/\b=.cu)∨∃d f e,b=.ps d f 8 e a):=by
 exact xK
def aa6{l:Ex}{i:Nat}{q p r:cC}{e:Int}{types:n_ Ty}{a:n_ ij}{c:n_ Ex}(h:gH l)(o:l=.mk i q p r e types a c):∀m∈a,cM m.ty<=dm l:=by
 intro m g;have key:∀{i:Nat},my i a->cQ (if i=8 then a.map ij.ty else [])+1<=dm l->cM m.ty<=dm l:=by
  intro i b n;have k:=b.ty m g;by_cases j:i=8
  ·rw[X' j]at n;have:=eU (aiV (f:=ij.ty) g);omega
  rw[W' j]at k;rw[k.1];have:cM cY=1:=dc;omega
 subst o;have d:=gT (.mk i q p r e types a c);rw[ov]at d;cases h with
 |ZU b _=>exact key b (by rw[d,gY];omega)
 |func b _=>exact key b (by rw[d,gY];omega)
 |call b _=>exact key b (by rw[d,gY];omega)
 |mat _ b _=>exact key b (by rw[d,gY];omega)
 |_=>cases g
def ag0 {a:Prop} (h:a:=by
 first
  |(refine ck.loop ?_
    exact a8 0 ⟨Z,Z⟩)
  |(refine iV (fx:=[(2,.bp 0 0),(3,.bp 1 0),(8,cl 0)]) ?_
    refine yB (λi:Nat=>[(2,.bp 0 0),(3,.bp 1 0),(8,cl i)]) (λi=>j' kids-i) (λi=>i<=j' kids) ?_ 0 (Nat.zero_le _);intro i hi;apply aZ<;>intro hc
    ·try exact Y' (hKK▸eK hc) (Nat.not_lt_zero _)
     all_goals
      have hi':i<j' kids:=e2▸eK hc;have hle:=mJ (List.getElem_mem hi');have⟨d,hx,EI⟩:=hkl.get hi';have⟨d',hy,hyt⟩:=ag1.get hi';have hai:=hak _ (List.getElem_mem hi');obtain⟨k2,m2,n2,x2,afX,ty2,lb2,kd2,rfl⟩:=EI.eight;obtain⟨k3,m3,n3,x3,ah8,ty3,lb3,kd3,rfl⟩:=hyt.eight;have Yj:nth oe i=q' [.int .i64 (Int.ofNat k2),.str m2,.str n2,.str x2,.int .i64 afX,ty2,lb2,kd2]:=by rw[cx];exact hx
      have hy1:nth aea i=q' [.int .i64 (Int.ofNat k3),.str m3,.str n3,.str x3,.int .i64 ah8,ty3,lb3,kd3]:=by rw[cx];exact hy
      repeat first|refine bZ rfl ?_|refine cp _ Yj ?_|refine cp _ hy1 ?_
      refine db ?_;refine ih kids[i] _ _ om hai EI hyt ?_;refine db ?_;exact lQ
    exact a8 0 ⟨Z,Z⟩)):a:=h
def XD(j:Nat)(ih:∀(h:Ex) (d d':cP),dm h<=j->fN h->iz h d->iz h d'->∀{z:VS} {X:dt->VS->Prop},X (.ret (cj A')) z->b7 C cm gN [.agg (d.map V.d),.agg (d'.map V.d)] z X) 
  (h:Ex) (d d':cP) (Q:dm h<=j+1) (O:j+1<4294967295) (q:fN h) (G:iz h d) (D:iz h d'):b7 C cm gN [.agg (d.map V.d),.agg (d'.map V.d)] [] λaf y=>y=[]/\af=.ret (cj A'):=by
 have f:=gT h;cases G with
 |mk I N u=>
 rename_i k ax av au ab types a kids an ao aj;cases D with
 |mk v w m=>
 rename_i T ad ae;have p:=aa6 q.node rfl;have M:=BP q rfl om;have B:cQ types<=j:=by rw[ov,gY]at f;omega
 have aa:dn kids<=j:=by rw[Ex.kids]at f;omega
 have U:=lH kids;have hak:=q.kids;clear f;have⟨l,c,F⟩:=N.inv2;have⟨g,e,n⟩:=w.inv2;have⟨oe,hkl,x⟩:=u.inv2;have⟨aea,ag1,o⟩:=m.inv2;have R:=c.len;have e2:=hkl.len;have b:j' l=j' g:=by rw[c.len,e.len]
 have hKK:j' oe=j' aea:=by rw[hkl.len,ag1.len]
 refine cD ?_;rcases F with⟨rfl,rfl⟩|⟨aw,ar,ay,rfl⟩<;>rcases n with⟨rfl,rfl⟩|⟨ai,ap,ah,rfl⟩<;>rcases x with⟨rfl,rfl⟩|⟨am,ak,al,rfl⟩<;>rcases o with⟨rfl,rfl⟩|⟨Y,W,ac,rfl⟩;all_goals
  repeat first|refine a7 (ni _) ?_|refine a7 (jE _) ?_|refine a7 (NF _) ?_|refine a7 (mK b) ?_|refine a7 (mK hKK) ?_|refine a7 (oP _) ?_
  refine Cc j (λaq d d' K H P=>p6 j aq d d' om K H P) types _ _ B om I v ?_;repeat first|refine a7 (ni _) ?_|refine a7 (jE _) ?_|refine a7 (NF _) ?_|refine a7 (mK b) ?_|refine a7 (mK hKK) ?_|refine a7 (oP _) ?_
  first
   |(refine ck.loop ?_
     exact ag0)
   |(refine iV (fx:=[(2,.bp 0 0),(3,.bp 1 0),(5,cl 0)]) ?_
     refine yB (λi:Nat=>[(2,.bp 0 0),(3,.bp 1 0),(5,cl i)]) (λi=>j' a-i) (λi=>i<=j' a) ?_ 0 (ait _);intro i hi;apply aZ<;>intro hc
     ·try exact Y' (b▸eK hc) (ai2 _)
      all_goals
       have hi':i<j' a:=R▸eK hc;have hle:=p _ (aiw hi');have⟨d,hx,EI⟩:=c.get hi';have⟨d',hy,hyt⟩:=e.get hi';generalize a[i]=ag at hx hy EI hyt hle;obtain⟨k2,m2,t,S,f2,rfl⟩:=EI.dL;obtain⟨k3,m3,s,L,f3,rfl⟩:=hyt.dL;have⟨E,A,J,r⟩:=ag;have Yj:nth l i=q' [.str E,.str A,.int .i64 (ais k2),.str m2,.str t,S,f2,.bool r]:=by rw[cx];exact hx
       have hy1:nth g i=q' [.str E,.str A,.int .i64 (ais k3),.str m3,.str s,L,f3,.bool r]:=by rw[cx];exact hy
       repeat first|refine bZ rfl ?_|refine cp _ Yj ?_|refine cp _ hy1 ?_
       refine db ?_;repeat first|refine a7 (ni _) ?_|refine a7 (jE _) ?_|refine a7 (NF _) ?_|refine a7 (mK b) ?_|refine a7 (mK hKK) ?_|refine a7 (oP _) ?_
       refine p6 (j+1) J _ _ O (Nat.le_trans hle Q) EI hyt ?_;repeat first|refine a7 (ni _) ?_|refine a7 (jE _) ?_|refine a7 (NF _) ?_|refine a7 (mK b) ?_|refine a7 (mK hKK) ?_|refine a7 (oP _) ?_
       exact⟨i+1,hi',ik,.eD 2,Z,Z⟩
     exact ag0)
def QC:∀(e:Nat) (b:Ex) (d a:cP),e<4294967295->dm b<=e->fN b->iz b d->iz b a->∀{f:VS} {i:dt->VS->Prop},i (.ret (cj A')) f->b7 C cm gN [.agg (d.map V.d),.agg (a.map V.d)] f i:=by
 intro e;induction e with
 |zero=>intro b d a _ h;have:=jn b;omega
 |succ e o=>
  intro b d a n h p g c f i hk;have h0:=XD e (λb d a k j m=>o b d a om k j m) b d a h n p g c;obtain⟨D,E,e,B,r,y,z,v,rfl⟩:=g.eight;obtain⟨x,A,u,w,l,q,s,t,rfl⟩:=c.eight;exact nk
abbrev EqR(h:Nat):Prop:=∀(c e:Ty) (d a:cP),cM c<=h->fF c d->fF e a->∀{b:VS} {f:dt->VS->Prop},(∀g:Bool,(c=e->g=A')->f (.ret (cj g)) b)->b7 C cm eR [.agg (d.map V.d),.agg (a.map V.d)] b f
theorem Ts(E:Nat)(H:EqR E)(T:E<4294967295){g b:n_ Ty}{L r:D}(P:cQ g<=E)(I:ft g L)(ha':ft b r):b7 C cm hU [.d L,.d r] [] λN w=>w=[]/\N1 (g=b) N:=by
 have K:=ey g;refine cD ?_;cases I with
 |nil=>
  exact Jd
 |ps h EJ=>
  rename_i Q O t els;have e1:=h.len;cases ha' with
  |nil=>
   rcases els with _|⟨x0,xr⟩
   ·exact Y' Z EJ
   exact Cr
  |ps p J=>
   rename_i z F j zk;have e2:=p.len;apply aZ<;>intro hc
   ·exact Ch
   have B:j' els=j' zk:=by
    grind
   refine ck.iter (λi:Nat=>[(0,.d (.ps Q O 5 t els)),(1,.d (.ps z F 5 j zk)),(5,cl i)]) (λ_=>[]) (λi=>j' g-i) (λi=>i<=j' g) ?_ 0 (ait _);intro i S;apply aZ<;>intro A
   ·have hi':i<j' g:=e1▸eK A;have s:i<j' b:=om;have⟨U,G,f⟩:=h.get hi';have⟨R,m,a⟩:=p.get s;have M:=eU (aiw hi');obtain⟨x,n,d,y,f2,rfl⟩:=f.dL;obtain⟨q,o,c,u,f3,rfl⟩:=a.dL;have v:nth els i=q' [.int .i64 (ais x),.str n,.str d,y,f2]:=by rw[cx];exact G
    have l:nth zk i=q' [.int .i64 (ais q),.str o,.str c,u,f3]:=by rw[cx];exact m
    repeat first|refine bZ rfl ?_|refine cp _ v ?_|refine cp _ l ?_
    refine db ?_;refine H g[i] b[i] [.int .i64 (ais x),.str n,.str d,y,f2] [.int .i64 (ais q),.str o,.str c,u,f3] om f a (λbb hb=>?_);refine db ?_;apply aZ<;>intro h2
    ·exact J8
    exact lQ
   exact qY
def Vf(e:Nat)(m:EqR e)(l:e<4294967295){g a:n_ Ty}{q b:D}(k:cQ g<=e)(n:ft g q)(d:ft a b){c:VS}{p:dt->VS->Prop}(j:∀f:Bool,(g=a->f=A')->p (.ret (cj f)) c):b7 C cm hU [.d q,.d b] c p:=
 b7.closed (P:=N1 (g=a)) ((Ts e m l k n d).mono λs r h=>⟨h.1,by have⟨t,_,o⟩:=h.2;rw[o];try rfl,h.2⟩) rfl (λs ⟨f,i,o⟩=>by rw[o];exact j f i)
def Tt(n:Nat)(ih:EqR n)(aL:n+1<4294967295){ai aq:Ty}{ao G:cP}(O:cM ai<=n+1)(ad:fF ai ao)(A:fF aq G):b7 C cm eR [.agg (ao.map V.d),.agg (G.map V.d)] [] λaE K=>K=[]/\N1 (ai=aq) aE:=by
 cases ad with
 |mk ha U=>
 rename_i k ap y o a av aN;cases A with
 |mk ha' s=>
 rename_i F L u p c ac aF;have ak:cQ o+rT a<=n:=by simp only[cM]at O;omega
 have an:=py a;have ar:j' a<=cQ (fa a):=by have:=ey (fa a);rwa[show(fa a).length=j' a from by simp[fa]]at this
 refine cD ?_;apply aZ<;>intro ag
 ·refine cN ?_;exact a8 0 ⟨Z,iQ λe=>by cases e;simp at ag⟩
 refine cN ?_;apply aZ<;>intro aa
 ·refine cN ?_;exact a8 0 ⟨Z,iQ λe=>by cases e;simp at aa⟩
 refine cN ?_;apply aZ<;>intro Q
 ·refine cN ?_;exact a8 0 ⟨Z,iQ λe=>by cases e;simp at Q⟩
 refine cN ?_;cases U with
 |nil=>
  cases s with
  |nil=>
   refine cN ?_;refine ck.loop ?_;exact xI
  |ps r=>
   rename_i f;have x:=r.len;rcases f with _|⟨S,Y⟩
   ·refine cN ?_;refine ck.loop ?_;exact xI
   refine cN ?_;exact a8 0 ⟨Z,iQ λe=>by cases e;simp at x⟩
 |ps h=>
  rename_i b aw I l;have q:=h.len;cases s with
  |nil=>
   rcases l with _|⟨S,Y⟩
   ·refine cN ?_;refine ck.loop ?_;exact xI
   refine cN ?_;exact a8 0 ⟨Z,iQ λe=>by cases e;simp at q⟩
  |ps r=>
   rename_i T X w f;have x:=r.len;refine cN ?_;apply aZ<;>intro m
   ·refine cN ?_;refine a8 0 ⟨Z,iQ λe=>?_⟩;cases e;rw[q,x]at m;simp at m
   refine cN ?_;have P:j' l=j' f:=Dw (Fh m);refine ck.iter (λi:Nat=>[(2,.bp 0 0),(3,.bp 1 0),(5,cl i)]) (λ_=>[.box (zT k ap y av (.ps b aw 7 I l)),.box (zT F L u ac (.ps T X 7 w f))]) (λi=>j' a-i) (λi=>i<=j' a) ?_ 0 (ait _);intro i aG;apply aZ<;>intro m
   ·have hi':i<j' a:=q▸eK m;have z:i<j' c:=om;obtain⟨N,R,B,D,v⟩:=h.get hi';obtain⟨M,W,J,H,t⟩:=r.get z;have j:nth l i=q' (fe N):=by rw[cx];exact R
    have g:nth f i=q' (fe M):=by rw[cx];exact W
    have E:cM a[i].2.1<=cQ (fa a):=eU (aiV (aiw hi'));have d:Ty.mk k ap y o a=Ty.mk F L u p c->N.n=M.n/\N.o=M.o/\a[i].2.1=c[i].2.1:=λe=>by
     cases e;exact⟨B.symm.trans J,D.symm.trans H,Z⟩
    generalize a[i].2.1=ab at v E d;generalize c[i].2.1=ae at t d;obtain⟨au,aM,ay,al,aH,aI,aB⟩:=N;obtain⟨aJ,az,aA,am,aD,aC,ax⟩:=M;repeat first|refine bZ rfl ?_|refine cp _ j ?_|refine cp _ g ?_|refine Ae ?_|refine cO ?_
    apply aZ<;>intro ah
    ·repeat first|refine bZ rfl ?_|refine cp _ j ?_|refine cp _ g ?_|refine Ae ?_|refine cO ?_
     exact a8 0 ⟨Z,iQ λe=>e_ (uA ah) (d e).1⟩
    repeat first|refine bZ rfl ?_|refine cp _ j ?_|refine cp _ g ?_|refine Ae ?_|refine cO ?_
    apply aZ<;>intro af
    ·repeat first|refine bZ rfl ?_|refine cp _ j ?_|refine cp _ g ?_|refine Ae ?_|refine cO ?_
     exact a8 0 ⟨Z,iQ λe=>e_ (uA af) (d e).2.1⟩
    repeat first|refine bZ rfl ?_|refine cp _ j ?_|refine cp _ g ?_|refine Ae ?_|refine cO ?_
    refine ih ab ae _ _ om v t (λaK hb=>?_);repeat first|refine bZ rfl ?_|refine cp _ j ?_|refine cp _ g ?_|refine Ae ?_|refine cO ?_
    apply aZ<;>intro aj
    ·refine a8 0 ⟨Z,iQ λe=>?_⟩;have:=hb (d e).2.2;rw[uA aj]at this;cases this
    exact lQ
   have hi':j' a<=i:=q▸dK m;exact xI
def QD:∀(b:Nat),b<4294967295->EqR b:=by
 intro b;induction b with
 |zero=>intro _ k n u g h;have:=jm k;omega
 |succ b j=>
  intro i k n u g h c a x z f;have d:=Tt b (j om) i h c a;obtain⟨C,D,p,A,B,rfl⟩:=c.dL;obtain⟨t,y,o,s,w,rfl⟩:=a.dL;exact b7.closed (P:=N1 (k=n)) (d.mono λq m h=>⟨h.1,by have⟨r,_,l⟩:=h.2;rw[l];try rfl,h.2⟩) Z λq ⟨v,e,l⟩=>by rw[l];exact f v e
def aa7:fF cY [.int .i64 (ais 0),.str [],.str [],.cu,.cu]:=.mk .nil .nil
def nC{d:cP}(a:fF cY d){b:VS}{e:dt->VS->Prop}(c:e (.ret (cj A')) b):b7 C cm w4 [.agg (d.map V.d)] b e:=by
 obtain⟨h,i,f,j,g,rfl⟩:=a.dL;refine cI ?_ Z Z c;refine cD ?_;refine p6 1 cY _ [.int .i64 (ais 0),.str [],.str [],.cu,.cu] dc dc a aa7 ?_;exact a8 0 ⟨Z,Z⟩
def z6(a:jj)(w:cP)(j:ot a w)(I:cM a.lo<4294967295/\cM a.up<4294967295):b7 C cm rG [.agg (w.map V.d)] [] λx g=>g=[]/\N1 (a.lo=a.up/\a.up=a.ty) x:=by
 obtain⟨A,k,p,u,s,f1,r,l,v,t,f2,d,b,c,f,f3,B,J,z,y,F,t4,G,d4,D,m,q,e,E,rfl⟩:=ez j;refine cD ?_;refine QD (cM a.lo) om a.lo a.ty (fY k p u s f1) (fY d b c f f3) (aiy _) m e (λH n=>?_);cases H with
 |true=>
  refine QD (cM a.up) om a.up a.ty (fY r l v t f2) (fY d b c f f3) (aiy _) q e (λo h=>?_);exact a8 0 ⟨Z,o,λi=>h i.2,Z⟩
 |false=>
  exact a8 0 ⟨Z,iQ λi=>Y' (n (i.1.trans i.2)) dc⟩
def wrA{a b:Nat}(h:a+b<4611686018427387904):IntKind.i64.wrap (IntKind.i64.wrap (ais a+1)+ais b)=ais (a+(1+b)):=by
 rw[cF om,dk om,<-ai5]
def rmT(a:Nat×Nat):Tm:=[(1,.bp 0 0),(3,cl a.2),(4,cl a.1)]
def ag2(b:Nat)(a:Nat×Nat):Tm:=[(1,.bp 0 0),(3,cl a.2),(4,cl b),(5,.bp 1 0),(6,cl a.1)]
def NG(ad:Da)(ax:cP)(aG:xj ad ax)(aM:D7 ad<1073741824)(G:∀x∈ad.ds,x.k=1->fN x.ex):b7 C cm ji [.agg (ax.map V.d)] [] λY E=>E=[]/\∃n,n<=D7 ad/\Y=.ret (cl n):=by
 obtain⟨q,ac,hi,p,rfl⟩:=aG;have⟨bh,oz,nK⟩:=ad;have aP:1+j' oz+jg nK<1073741824:=aM;have G:∀x∈nK,x.k=1->fN x.ex:=G;have aQ:=xy nK;have hi:sN oz q:=hi;have p:ul nK ac:=p;have c:∃L:Nat,L=j' oz/\((q=.cu/\L=0)∨∃P ah ai,q=.ps P ah 2 ai (oz.map fT)):=by
  exact Kw
 clear hi;have⟨L,hL,hi⟩:=c;have hw1:∀ak,ak=L->IntKind.i64.wrap (1+ais ak)=ais (1+L):=λak F=>wr0 om F;rcases hi with⟨rfl,hL0⟩|⟨bl,aV,aY,rfl⟩;all_goals
  refine cD ?_;cases p with
  |nil=>
   exact Jh
  |ps h al=>
   rename_i P ah ai af;have N4:=h.len;refine ck.less (fx:=rmT (0,1+L)) ⟨Z,by first|exact int_eq (hw1 0 hL0.symm)|exact int_eq (hw1 _ (by rw[aiC];exact hL.symm)),Z,tv⟩ ?_;refine ck.iter rmT (λ_=>_) (λx=>j' nK-x.1) (λx=>x.1<=j' nK/\x.2<=1+L+jg (nK.take x.1)) ?_ (0,1+L) ⟨ait _,Nat.le_add_right _ _⟩;rintro⟨j,n⟩ ⟨O,M⟩;have ba:j<=j' nK:=O;have hnj:n<=1+L+jg (nK.take j):=M;have aS:=Fc nK j;apply aZ<;>intro hc
   ·have nH:j<j' nK:=N4▸eK hc;have W:=Lz nH;have an:=Fc nK (j+1);have⟨ax,ar,i⟩:=h.get nH;obtain⟨x,w⟩:∃x,x=nK[j]:=⟨_,rfl⟩;have B:x.k=1->fN x.ex:=by rw[w];exact G _ (aiw nH)
    rw[<-w]at i W;obtain⟨ps,aH,aE,aA,az,f1,au,aI,aB,aF,f2,J,H,I,N,f3,bm,bc,bn,be,bf,t4,aX,d4,h1,aC,aq,K,X,rfl⟩:=ez i;have ae:=(cx af j).trans ar;have o:∃e:Nat,e=j' x.ps/\((ps=.cu/\e=0)∨∃P ah ai m,ps=.ps P ah 7 ai m/\rS x.ps m/\j' m=e):=by
     exact Cg
    obtain⟨e,u,o⟩:=o;have aU:e<1073741824:=by
     have:=BT x;omega
    have b:∀am,am=e->IntKind.i64.wrap (IntKind.i64.wrap (ais n+1)+ais am)=ais (n+(1+e)):=λam F=>by
     subst F;exact wrA om
    refine bZ Z ?_;refine cp _ ae ?_;rcases o with⟨rfl,d⟩|⟨bo,bg,aW,m,rfl,A,f⟩;all_goals
     apply aZ<;>intro aw
     ·have a:x.k=1:=Dw (b:=1) aw;have y:decide (ais x.k=0)=B':=by rw[a];try rfl
      have r:=yA a;rw[<-u]at r;first
       |refine ck.loop ?_
        have aO:oy x.ps=0:=by rw[ai1 (u.symm.trans d)];try rfl
        refine db ?_;refine lK _ x.ty (fY J H I N f3) om (aiy _) K ?_;refine db ?_;refine xB _ x.ex _ om (aiy _) (B a) X ?_;refine db ?_;refine cN ?_;exact⟨(j+1,n+(1+e)+cM x.ty+dm x.ex),⟨nH,by show _<=1+L+jg (nK.take (j+1));omega⟩,ik,.pick 0 [0] ⟨Z,int_eq (by rw[b _ d.symm,dk om,dk om]),int_eq (cF om),tv⟩ Z Z Z Z Z dc ⟨Z,Z,tv⟩,Z,Z⟩
       |refine ck.less (fx:=ag2 j (0,n+(1+e))) ⟨rfl,int_eq (b _ f),rfl,rfl,rfl,tv⟩ ?_
        refine ck.iter (ag2 j) (λ_=>_) (λaa=>j' x.ps-aa.1) (λaa=>aa.1<=j' x.ps/\aa.2=n+(1+e)+oy (x.ps.take aa.1)) ?_ (0,n+(1+e)) ⟨ait _,Z⟩;rintro⟨g,t⟩ ⟨O,M⟩;have hi:g<=j' x.ps:=O;have ag:t=n+(1+e)+oy (x.ps.take g):=M;have aK:=Fb x.ps g;have s:=A.len;apply aZ<;>intro z
        ·have c:g<j' x.ps:=s▸eK z;have aR:=Ly c;have aD:=Fb x.ps (g+1);obtain⟨bk,ay,aJ,v,rfl⟩:=A.get c;obtain⟨av,ao,ap,aj,f7,rfl⟩:=v.dL;have Q:=(cx m g).trans ay;refine bZ Z ?_;refine cp _ Q ?_;refine lK _ x.ps[g].b (fY av ao ap aj f7) om (aiy _) v ?_;exact⟨(g+1,t+cM x.ps[g].b),⟨c,by show t+cM x.ps[g].b=_+oy (x.ps.take (g+1));omega⟩,ik,.pick 0 [0,1] ⟨Z,int_eq (dk om),Z,Z,int_eq (cF om),tv⟩ Z Z Z Z Z dc ⟨Z,Z,Z,Z,tv⟩,Z,Z⟩
        have S:j' x.ps<=g:=s▸dK z;rw[aiv S]at ag;refine db ?_;refine lK _ x.ty (fY J H I N f3) om (aiy _) K ?_;refine db ?_;refine xB _ x.ex _ om (aiy _) (B a) X ?_;refine db ?_;refine cN ?_;exact⟨(j+1,t+cM x.ty+dm x.ex),⟨nH,by show _<=1+L+jg (nK.take (j+1));omega⟩,ik,.pick 0 [0] ⟨Z,int_eq (by rw[dk om,dk om]),int_eq (cF om),tv⟩ Z Z Z Z Z dc ⟨Z,Z,tv⟩,Z,Z⟩
     apply aZ<;>intro y
     ·have l:x.k=0:=Dw (b:=0) y;have⟨ab,aT,aN⟩:=Dp l;rw[<-u]at ab;refine lK _ x.ty (fY J H I N f3) om (aiy _) K ?_;refine b7.closed (P:=λY=>N1 (x.lo=x.up/\x.up=x.ty) Y) ((z6 x _ i ⟨om,om⟩).mono λY E h=>⟨h.1,by have⟨aJ,_,F⟩:=h.2;rw[F];try rfl,h.2⟩) Z (λY aL=>?_);obtain⟨bj,T,rfl⟩:=aL;apply aZ<;>intro R
      ·have U:¬(x.lo=x.up/\x.up=x.ty):=λF=>by rw[T F]at R;cases R
       have r:=Hb l U;rw[<-u]at r;refine db ?_;refine lK _ x.lo (fY aH aE aA az f1) om (aiy _) aC ?_;refine db ?_;refine lK _ x.up (fY au aI aB aF f2) om (aiy _) aq ?_;refine db ?_;exact⟨(j+1,n+(1+e)+cM x.ty+cM x.lo+cM x.up),⟨nH,by show _<=1+L+jg (nK.take (j+1));omega⟩,ik,.pick 0 [0] ⟨Z,int_eq (by rw[b _ (by first|exact d.symm|exact f),dk om,dk om,dk om]),int_eq (cF om),tv⟩ Z Z Z Z Z dc ⟨Z,Z,tv⟩,Z,Z⟩
      exact⟨(j+1,n+(1+e)+cM x.ty),⟨nH,by show _<=1+L+jg (nK.take (j+1));omega⟩,ik,.pick 0 [0] ⟨Z,int_eq (by rw[b _ (by first|exact d.symm|exact f),dk om]),int_eq (cF om),tv⟩ Z Z Z Z Z dc ⟨Z,Z,tv⟩,Z,Z⟩
     exact⟨(j+1,n+(1+e)),⟨nH,by show _<=1+L+jg (nK.take (j+1));have:=BT x;omega⟩,ik,.pick 0 [0] ⟨Z,int_eq (by rw[b _ (by first|exact d.symm|exact f)]),int_eq (cF om),tv⟩ Z Z Z Z Z dc ⟨Z,Z,tv⟩,Z,Z⟩
   exact JN
def aa8(a:n_ cC)(b:UInt8):n_ cC:=if b.toNat=47 then a++[[]]else a.dropLast++[a.getLastD []++[b]]
theorem QE(c:cC)(g:UInt8):dJ (c++[g])=aa8 (dJ c) g:=by
 unfold aa8;induction c with
 |nil=>
  grind [dJ]
 |cons j c f=>
  rw[List.cons_append,dJ,dJ,f];obtain⟨e,a,i⟩:∃e a,dJ c=e::a:=by
   cases h:dJ c with
   |nil=>exact Y' h (nx c)
   |cons e a=>exact⟨e,a,rfl⟩
  rw[i];by_cases d:j.toNat=47
  ·all_goals grind
  rw[W' d,W' d];by_cases b:g.toNat=47
  ·rw[X' b,X' b];try rfl
  rw[W' b,W' b];cases a with
  |nil=>rfl
  |cons l k=>rfl
theorem BV(a:cC):j' (dJ a)<=j' a+1/\∀b∈dJ a,j' b<=j' a:=by
 induction a with
 |nil=>
  rw[dJ]
  grind
 |cons e d c=>
  rw[dJ];all_goals grind
def pC(b:n_ cC):n_ cP:=b.map λa=>[D.str a]
def sgT(b:cC)(a:Nat×n_ cC):Tm:=[(0,cv b),(3,.ms 0 1 0 (j' a.2) (j' a.2)),(4,cl a.1)]
def sgS(b:n_ cC):VS:=[.row 1 ((pC b).map λa=>a.map V.d)]
def ah9:Nat->Bool:=λa=>ai3 a 17
def adj{a:n_ cC}(h:a≠[])(d:cC):((pC a).map λb=>b.map V.d).set (0+(j' a-1)) [cv d]=(pC (a.dropLast++[d])).map λb=>b.map V.d:=by
 have e:=List.dropLast_concat_getLast h;have c:j' a-1=j' a.dropLast:=by rw[ajd]
 rw[aiL,c];conv=>lhs;rw[<-e]
 unfold pC;rw[aiE,aiE,aiE,aiE,List.set_append_right _ _ sm];simp;rfl
def afu(b:Nat)(a:n_ cC):q' (V.ms b 1 0 (j' a+1) (j' a+1))=q' (V.ms b 1 0 (j' (a++[[]])) (j' (a++[[]]))):=by rw[aiz];try rfl
def adk(c:Nat->Nat)(a:n_ cC):q' (cX.row 1 (aiW (j' a) (aiY 0 ((pC a).map λb=>b.map V.d))++[[cv []]]))=q' (eb c (.row 1 ((pC (a++[[]])).map λb=>b.map V.d))):=by
 have h:=Ds c 1 (pC a) [D.str []];rw[show(pC a).length=j' a from aiC _]at h;rw[show pC (a++[[]])=pC a++[[D.str []]]from aiE];exact h
theorem Hg(b:cC)(G:j' b<=64):b7 C cm nr [cv b] [] λy t=>t=[]/\da y=A'/\∃p H,y=.ret (.d (.ps p 0 1 H (pC (dJ b)))):=by
 refine cB ah9 (λ_=>Z) ?_;refine ck.iter (sgT b) (λn=>sgS n.2) (λn=>j' b-n.1) (λn=>n.1<=j' b/\n.2=dJ (b.take n.1)) ?_ (0,[[]]) ⟨ait _,Z⟩;rintro⟨d,a⟩ ⟨s,k⟩;have s:d<=j' b:=s;have k:a=dJ (b.take d):=k;have r:=BV (b.take d);rw[<-k,aiF,Nat.min_eq_left s]at r;have A:j' a<=d+1:=r.1;apply aZ<;>intro v
 ·have e:d<j' b:=eK v;have j:dJ (b.take (d+1))=aa8 a b[d]:=by
   grind [aiD,QE]
  refine bZ Z (cp b[d] (by rw[cx];exact aix e) ?_);apply aZ<;>intro h
  ·have m:b[d].toNat=47:=Dw (b:=47) h;rw[aa8,X' m]at j;intro B;refine a6 Z (a6 ⟨Z,Z,by simp[pC],aiy _,ug (by show (j' a)<=_;omega) (aiy _) (aiG Z)⟩ (a7 Z (a7 (ej _) ?_)));exact⟨(d+1,a++[[]]),⟨e,j.symm⟩,ik,.pick 0 [1] ⟨Z,afu _ a,int_eq (cF om),tv⟩ Z Z Z Z Z dc ⟨adk _ a,Dr _ _ _,tv⟩,Z,Z⟩
  have m:¬b[d].toNat=47:=A7 (b:=47) h;rw[aa8,W' m]at j;have o:a≠[]:=by rw[k];exact nx _
  have i:=aje.2 o;have c:nth ((pC a).map λE=>E.map V.d) (0+(j' a-1))=q' [cv (a.getLastD [])]:=by
   have w:a[j' a-1]?=q' (a.getLastD []):=by
    grind [aja]
   rw[aiL,cx,aiI,pC,aiI,w];try rfl
  refine bZ (uj (show 0<j' a from i) (show (j' a)<_ by omega)) (a6 (by show (j' a)-1<j' a;omega) ?_);refine cp [cv (a.getLastD [])] c ?_;have l:nth b d=q' b[d]:=by rw[cx];exact aix e
  refine bZ Z (cp b[d] l ?_);intro D;refine zI [b[d]] Z Z ?_;have z:j' (a.getLastD [])<=d:=by
   grind [aja,List.getLast_mem]
  refine a6 (by rw[aiS];omega) ?_;refine bZ (uj (show 0<j' a from i) (show (j' a)<_ by omega)) (a6 (by show (j' a)-1<j' a;omega) ?_);have q:IntKind.i64.wrap (ais (j' a)-1)=ais (j' a-1):=uj i om;have f:j' a-1<j' a:=om;have g:j' (a.getLastD [])+j' [b[d]]<=1099511627776:=by rw[aiS];omega
  repeat refine a6 (by repeat' (first|exact tv|exact rfl|refine bZ rfl ?_|refine bZ q ?_|exact f|refine a6 f ?_|refine cp _ c ?_|refine cp _ l ?_|refine zI [b[d]] rfl rfl ?_|exact g|refine a6 g ?_|refine aiP ?_ ?_)) ?_
  refine cp [cv (a.getLastD [])] c ?_;repeat refine a6 (by repeat' (first|exact tv|exact rfl|refine bZ rfl ?_|refine bZ q ?_|exact f|refine a6 f ?_|refine cp _ c ?_|refine cp _ l ?_|refine zI [b[d]] rfl rfl ?_|exact g|refine a6 g ?_|refine aiP ?_ ?_)) ?_
  have u:j' (a.dropLast++[a.getLastD []++[b[d]]])=j' a:=by rw[aiz,ajd,aiS];omega
  refine⟨(d+1,a.dropLast++[a.getLastD []++[b[d]]]),⟨e,j.symm⟩,ik,.same ⟨Z,?_,int_eq (cF om),tv⟩ ?_,Z,Z⟩
  ·show q' (V.ms 0 1 0 (j' a) (j' a))=q' (V.ms 0 1 0 _ _);rw[u]
  exact d_ (λn=>[cX.row 1 n]) (adj o _)
 have e:d=j' b:=by have:=dK v;omega
 rw[e,List.take_length]at k;refine cV.freeze 0 (es:=1) (l:=pC a) Z (dF _) (λ_=>⟨Z,by simp[pC]⟩) (λp=>?_);have x:qL 0 p (pC a) (.ret (.ms 0 1 0 (j' a) (j' a)))=.ret (.d (.ps p (0*1) 1 (j' a) (pC a))):=by
  show dt.ret (jN 0 p (pC a) (.ms 0 1 0 (j' a) (j' a)))=_
  grind [jN,gr,eG,pC]
 refine cV.drop 0 Z (by rw[ml]) ?_ (cV.now Z ?_)
 ·exact(d_ (Wb 0) x).trans Z
 refine⟨Z,(d_ da x).trans Z,p,j' a,x.trans ?_⟩;rw[k]
theorem all_false{α:Type}{a:n_ α}{f:α->Bool}{b:Nat}(h:b<j' a)(c:f a[b]=B'):a.all f=B':=by
 grind [List.all_eq_true.1,aiw]
theorem Ob{α:Type}{b:n_ α}{c:α->Bool}{a:Nat}(h:a<j' b)(d:(b.take a).all c=A')(e:c b[a]=A'):(b.take (a+1)).all c=A':=by
 grind [aiD]
def XE(a:cC)(g:j' a<=64){d:VS}{f:dt->VS->Prop}(b:f (.ret (cj (c8 a&&a.all qn))) d):b7 C cm uZ [cv a] d f:=by
 refine cA ?_;refine ck.iter (λi:Nat=>[(0,cv a),(3,cl i)]) (λ_=>d) (λi=>j' a-i) (λi=>i<=j' a/\(a.take i).all qn=A') ?_ 0 ⟨ait _,Z⟩;rintro i ⟨l,ha⟩;apply aZ<;>intro e
 ·have hi':i<j' a:=eK e;have c:nth a i=q' a[i]:=by rw[cx];exact aix hi'
  refine bZ Z (cp a[i] c ?_);refine qU a[i] ?_;apply aZ<;>intro j
  ·refine cN ?_;refine bZ Z (cp a[i] c ?_);refine cN ?_;refine kB a[i] ?_;refine cN ?_;apply aZ<;>intro h
   ·rw[all_false hi' (f:=qn) (by rw[qn];simp_all),Bool.and_false]at b;exact b
   exact KS
  refine cN ?_;exact KS
 refine fC a om ?_;rw[aiv (dK e)]at ha;rw[ha,aiZ]at b;exact b
theorem aa9{b a:Nat}(e:b<1000)(d:48<=a)(c:a<=57):IntKind.i64.wrap (IntKind.i64.wrap (10*ais b)+IntKind.i64.wrap (IntKind.u8.wrap (ais a-48)))=ais (10*b+(a-48)):=by
 grind [aiu,Gq,wrap64]
def XF{a:UInt8}(h:isDigit a=A'):48<=a.toNat/\a.toNat<=57:=by
 exact KV
def XG(c b:UInt8)(a:cC):oG (c::b::a)=(decide (c=118)&&(decide (j' a<=2)&&(!(decide (0<j' a)&&decide (ais b.toNat=48))&&(b::a).all isDigit))):=by simp[oG]
theorem XH(G:cC)(T:j' G<=64){s:VS}{P:dt->VS->Prop}(A:∀e:Int,decide (e<0)= !oG G->P (.ret (.d (.int .i64 e))) s):b7 C cm wY [cv G] s P:=by
 have c:oG G=B'->P (.ret (.d (.int .i64 (-1)))) s:=λh=>A _ (by rw[h];try rfl);rcases G with _|⟨m,_|⟨r,o⟩⟩
 ·refine cA ?_;repeat refine b9 rfl ?_
  exact c Z
 ·refine cA ?_;repeat refine b9 rfl ?_
  exact c (by simp[oG])
 have u:=XG m r o;obtain⟨b,l⟩:∃b,b=m::r::o:=⟨_,rfl⟩;have aa:j' b=j' o+2:=by rw[l];try rfl
 have Q:nth b 0=q' m:=by rw[l];try rfl
 have d:nth b 1=q' r:=by rw[l];try rfl
 have E:∀a (h:a<j' b),1<=a->isDigit b[a]=B'->oG b=B':=by
  grind
 have D:m=118->j' o<=2->(decide (0<j' o)&&decide (ais r.toNat=48))=B'->(∀a (h:a<j' b),1<=a->isDigit b[a]=A')->oG b=A':=by
  intro U R V Y;subst l;rw[u,a_ U,a_ R,V,List.all_eq_true.2 λaf v=>?_]
  ·rfl
  obtain⟨j,W,rfl⟩:=ajf v;exact Y (j+1) (by simpa using W) (Nat.le_add_left _ _)
 rw[<-l]at c A u T⊢;have ab:decide (ais (j' b)<2)=B':=Z' (by simp only[aiu];omega);refine cA ?_;refine cN ?_;have L:∀n,decide (ais n<ais (j' b))=decide (n<j' o+2):=λn=>decide_eq_decide.2 (by simp only[aiu];omega);have z:decide (ais m.toNat=118)=decide (m=118):=decide_eq_decide.2 ⟨λh=>UInt8.toNat_inj.1 (by simp only[aiu]at h;show m.toNat=118;omega),λh=>by rw[h];try rfl⟩;apply aZ<;>intro t
 ·refine cN ?_;refine c ?_;have t:=(L 4).symm.trans t;rw[u,Z' (p:=j' o<=2) (by have:=f_ t;omega)];simp
 have H:j' o<=2:=by have:=e_ ((L 4).symm.trans t);omega
 refine cN ?_;refine bZ (m:=0) Z (cp m Q ?_);refine cN ?_;apply aZ<;>intro p
 ·refine cN ?_;rw[z]at p;refine c ?_;rw[u,show decide (m=118)=B' by simpa using p];try rfl
 have X:m=118:=by rw[z]at p;simpa using p
 refine cN ?_;refine bZ (m:=1) Z (cp r d ?_);have B:(decide (ais r.toNat=48)=A'/\decide (2<ais (j' b))=A'/\oG b=B')∨(decide (ais r.toNat=48)=B'∨decide (ais r.toNat=48)=A'/\decide (2<ais (j' b))=B')/\(decide (0<j' o)&&decide (ais r.toNat=48))=B':=by
  grind
 rcases B with⟨F,S,h⟩|⟨F|⟨F,S⟩,B⟩
 ·refine cN ?_;exact c h
 all_goals
  refine cN ?_;refine ck.iter (λe:Nat×Nat=>[(0,cv b),(3,cl e.2),(4,cl e.1)]) (λ_=>s) (λe=>j' b-e.1) (λe=>(1<=e.1/\e.1<=j' b)/\e.2<10^(e.1-1)/\∀a (h:a<j' b),1<=a->a<e.1->isDigit b[a]=A') ?_ (1,0) ⟨⟨aiy _,by show 1<=j' b;omega⟩,dc,λa _ d q=>Y' q (Nat.not_lt.2 d)⟩;rintro⟨a,n⟩ ⟨⟨f,M⟩,N,w⟩;have f:1<=a:=f;have M:a<=j' b:=M;have N:n<10^(a-1):=N;have ac:10^(a-1)<=1000:=Nat.pow_le_pow_right (n:=10) (j:=3) dc om;apply aZ<;>intro v
  ·have i:a<j' b:=eK v;have y:nth b a=q' b[a]:=by rw[cx];exact aix i
   refine bZ Z (cp b[a] y ?_);refine kB b[a] ?_;apply aZ<;>intro J
   ·exact c (E a i f (by simpa using J))
   have x:isDigit b[a]=A':=by simpa using J
   have⟨K,O⟩:=XF x;have I:10^(a+1-1)=10*10^(a-1):=by
    rw[show a+1-1=(a-1)+1 by omega,Nat.pow_succ,Nat.mul_comm]
   refine bZ Z (cp b[a] y ?_);refine⟨(a+1,10*n+(b[a].toNat-48)),⟨⟨by show 1<=a+1;omega,i⟩,by show _<10^(a+1-1);rw[I];omega,λj h d q=>?_⟩,ik,.same ⟨Z,int_eq (aa9 om K O),int_eq (cF om),tv⟩ Z,Z,Z⟩;rcases ai8 j a with g|g
   ·exact w j h d g
   have q:j<a+1:=q;obtain rfl:j=a:=om;exact x
  refine A _ ?_;rw[D X H B (λj h d=>w j h d (Nat.lt_of_lt_of_le h (dK v)))];exact Z' (by simp only[aiu];omega)
theorem US{a:n_ cC}{b:Nat}(h:b<j' a):nth (pC a) b=q' [D.str a[b]]:=by
 grind [cx,pC]
def Iy(b:cC)(f:j' b<=64){a:VS}{g:dt->VS->Prop}(c:∀d e,g (.ret (.d (.ps d 0 1 e (pC (dJ b))))) a):b7 C cm nr [cv b] a g:=
 b7.closed (Hg b f) rfl (λi ⟨d,e,h⟩=>by rw[h];exact c d e)
theorem z7(c:cC){g:VS}{o:dt->VS->Prop}(l:o (.ret (cj (fQ c))) g):b7 C cm vQ [cv c] g o:=by
 refine cA ?_;have F:∀{o:dt->VS->Prop},(∀(E:Int) (G:Nat),decide (ais G=0)=fQ c->o (.ret (.dP [.d (.int .i64 E),cl G])) g)->b7 C cm wT [cv c] g o:=fun{o} l=>by
  have e:fQ c=B'->o (.ret (.dP [cl 0,cl 4])) g:=λh=>l _ _ (by rw[h];try rfl);have d:fQ c=(oG ((dJ c).getLastD [])&&(decide (j' c<=64)&&(decide (2<=j' (dJ c))&&(dJ c).all λw=>c8 w&&w.all qn))):=rfl;refine cA ?_;apply aZ<;>intro x
  ·exact e (by rw[d,Z' (p:=j' c<=64) (by have:=f_ x;simp only[aiu]at this;omega)];simp)
  have A:j' c<=64:=by have:=e_ x;simp only[aiu]at this;omega
  have v:=BV c;have t:=nx c;refine Iy c A (λI K=>?_);rw[a_ A,ai6]at d;generalize dJ c=a at*;have f:j' (pC a)=j' a:=aiC _;have p:0<j' a:=aje.2 t;refine ck.iter (λj:Nat=>[(4,.d (.ps I 0 1 K (pC a))),(5,cl j)]) (λ_=>g) (λj=>j' a-j) (λj=>j<=j' a/\(a.take j).all (λw=>c8 w&&w.all qn)=A') ?_ 0 ⟨ait _,Z⟩;rintro j ⟨J,q⟩;apply aZ<;>intro D
  ·have b:j<j' a:=f▸eK D;have s:=v.2 _ (aiw b);refine bZ Z ?_;refine cp _ (US b) ?_;refine XE a[j] om ?_;apply aZ<;>intro r
   ·exact e (by rw[d,all_false b (by rwa[Bool.not_eq_true']at r)];simp)
   exact⟨j+1,⟨b,Ob b q (by rwa[Bool.not_eq_false']at r)⟩,ik,.eS,Z,Z⟩
  have B:IntKind.i64.wrap (ais (j' (pC a))-1)=ais (j' a-1):=by rw[f];exact uj p om
  have n:j' a-1<j' a:=om;have m:a[j' a-1]=a.getLastD []:=by
   grind [aja]
  have s:=v.2 _ (aiw n);rw[aiv (f▸dK D)]at q;have y:decide (ais (j' (pC a))<2)=decide (j' a<2):=decide_eq_decide.2 (by rw[f];simp only[aiu];omega);refine bZ B ?_;refine cp _ (US n) ?_;refine XH a[j' a-1] om (λE i=>?_);rw[m]at i;apply aZ<;>intro u
  ·refine cN ?_;have:=f_ (y.symm.trans u);exact e (by rw[d,Z' (p:=2<=j' a) om];simp)
  refine cN ?_;have:=e_ (y.symm.trans u);rw[q,a_ (p:=2<=j' a) om,aiZ,aiZ]at d;apply aZ<;>intro z
  ·exact e (by rw[d];rw[z]at i;simpa using i.symm)
  exact l _ _ (by rw[d];rw[z]at i;simpa using i)
 exact F λE G h=>fK h l
structure RS where
 p:Nat
 off:Nat
 e:Nat
def RS.v(R:Rd)(a:RS):V:=.agg [.d (.ps R.b 0 3 R.cap (R.ts.map pn)),cl a.p,cl a.off,cl a.e]
def RS.fail(b:RS)(a c:Nat):RS:=if b.e=0 then⟨b.p,a,c⟩else b
def RS.oM(R:Rd)(a:RS):RS:=a.fail (R.tok a.p).off 3
def RS.is(R:Rd)(a:RS)(b:cC):Bool:=decide (a.e=0)&&cG (R.tok a.p) b
def RS.isKind(R:Rd)(a:RS)(b:Nat):Bool:=decide (a.e=0)&&decide ((R.tok a.p).kind=b)
def RS.next(a:RS):RS:=⟨a.p+1,a.off,a.e⟩
def RS.expect(R:Rd)(a:RS)(b:cC):RS:=if a.is R b then a.next else a.oM R
def uu(b:Nat)(a:VS):ml b a 0=A':=by rw[ml]
def Fp{d w:V}{b:VS}(h:d=w)(c:bd 0 w=A'):cV 0 (.ret d) b λe a=>a=[]/\e=.ret w:=by
 subst h;exact .drop 0 (ai9 (ait _)) (uu 0 b) c (.now Z ⟨Z,Z⟩)
def eqz{a:Nat}(h:decide (ais a=0)=A'):a=0:=Dw (b:=0) h
def nez{a:Nat}(h:decide (ais a=0)=B'):a≠0:=A7 (b:=0) h
def kD(R:Rd)(d:RS)(a f:Nat){b:VS}{e:dt->VS->Prop}(c:e (.ret ((d.fail a f).v R)) b):b7 C cm yM [d.v R,cl a,cl f] b e:=by
 refine cI ?_ Z Z c;refine cD ?_;apply aZ<;>intro h
 ·refine Fp ?_ Z;rw[RS.fail,X' (eqz h)];try rfl
 refine Fp ?_ Z;rw[RS.fail,W' (nez h)];try rfl
def p8(R:Rd)(b:RS)(c:b.p<j' R.ts){a:VS}{f:dt->VS->Prop}(d:f (.ret ((b.oM R).v R)) a):b7 C cm wP [b.v R] a f:=by
 have e:=s8 (cn c);refine cI ?_ Z Z d;refine cD ?_;refine bZ Z ?_;refine cp _ e ?_;refine db ?_;refine kD R b _ 3 ?_;refine db ?_;exact qZ
def cL(R:Rd)(e:RS)(j:cC)(d:e.p<j' R.ts){c:VS}{l:dt->VS->Prop}(f:l (.ret (cj (e.is R j))) c):b7 C cm Ba [e.v R,cv j] c l:=by
 have i:=s8 (cn d);refine cI ?_ Z Z f;unfold RS.is cG;refine cD ?_;refine bZ Z ?_;refine cp _ i ?_;apply aZ<;>intro h
 ·refine cN ?_;rw[a_ (eqz h),ai6];apply aZ<;>intro b
  ·refine cN ?_;refine Fp ?_ Z;rw[a_ (Dw (b:=5) b)];show cj _=cj _;simp
  refine cN ?_;apply aZ<;>intro a
  ·refine cN ?_;refine Fp ?_ Z;rw[a_ (Dw (b:=6) a)];show cj _=cj _;simp
  refine cN ?_;refine Fp ?_ Z;rw[Z' (A7 (b:=5) b),Z' (A7 (b:=6) a)];show cj _=cj _;simp
 refine cN ?_;refine Fp ?_ Z;rw[Z' (nez h)];try rfl
def gh(R:Rd)(c:RS)(k:Nat)(b:c.p<j' R.ts){a:VS}{f:dt->VS->Prop}(d:f (.ret (cj (c.isKind R k))) a):b7 C cm vP [c.v R,cl k] a f:=by
 have e:=s8 (cn b);refine cI ?_ Z Z d;unfold RS.isKind;refine cD ?_;apply aZ<;>intro h
 ·refine cN ?_;refine bZ Z ?_;refine cp _ e ?_;refine cN ?_;refine Fp ?_ Z;rw[a_ (eqz h),ai6];exact d_ cj (decide_eq_decide.2 (by simp only[aiu];omega))
 refine cN ?_;refine Fp ?_ Z;rw[Z' (nez h)];try rfl
def cT(R:Rd)(b:RS)(e:b.p<4294967296){a:VS}{d:dt->VS->Prop}(c:d (.ret (b.next.v R)) a):b7 C cm yJ [b.v R] a d:=by
 refine cI ?_ Z Z c;refine cD ?_;refine Fp ?_ Z;show V.agg [_,V.d (.int .i64 (IntKind.i64.wrap (ais b.p+1))),_,_]=_;rw[cF om];try rfl
def cH(R:Rd)(w:R.Wf)(a:RS)(s:cC)(b:a.p<j' R.ts){c:VS}{f:dt->VS->Prop}(d:f (.ret ((a.expect R s).v R)) c):b7 C cm vO [a.v R,cv s] c f:=by
 have e:=w.len;refine cI ?_ Z Z d;refine cD ?_;refine cL R a s b ?_;unfold RS.expect;cases h:a.is R s with
 |true=>
  refine cT R a om ?_;exact qZ
 |false=>
  refine p8 R a b ?_;exact qZ
def RS.dq(R:Rd)(a:RS)(b:Nat):cC:=if a.isKind R b then(R.tok a.p).text else []
def RS.word(R:Rd)(a:RS)(b:Nat):RS:=if a.isKind R b then a.next else a.oM R
def dv(R:Rd)(w:R.Wf)(a:RS)(k:Nat)(b:a.p<j' R.ts){c:VS}{g:dt->VS->Prop}(d:g (.ret (.dP [cv (a.dq R k),cl (R.tok a.p).off,(a.word R k).v R])) c):b7 C cm yK [a.v R,cl k] c g:=by
 have f:=w.len;have e:=s8 (cn b);refine cI ?_ Z Z d;refine cD ?_;refine bZ Z ?_;refine cp _ e ?_;refine gh R a k b ?_;unfold RS.word RS.dq;cases h:a.isKind R k with
 |true=>
  refine db ?_;refine cT R a om ?_;refine db ?_;exact qZ
 |false=>
  refine db ?_;refine p8 R a b ?_;refine db ?_;exact qZ
theorem fB{R:Rd}(w:R.Wf){x:RS}{k:Nat}(b:k≠0)(a:x.p<j' R.ts):(x.word R k).p<j' R.ts:=by
 unfold RS.word;split
 ·rename_i h;simp only[RS.isKind,aiJ,j_]at h;exact w.go x.p _ (cn a) om
 grind [RS.oM,RS.fail]
theorem cW{R:Rd}(w:R.Wf){x:RS}{s:cC}(a:x.p<j' R.ts):(x.expect R s).p<j' R.ts:=by
 unfold RS.expect;split
 ·rename_i h;simp only[RS.is,aiJ]at h;exact w.step a h.2
 grind [RS.oM,RS.fail]
def nD{b:RS}(h:b.e≠0)(a c:Nat):b.fail a c=b:=by rw[RS.fail,W' h]
def qW{R:Rd}{a:RS}(h:a.e≠0):a.oM R=a:=nD h _ _
def ea{R:Rd}{a:RS}(h:a.e≠0)(b:cC):a.is R b=B':=by rw[RS.is,Z' h];try rfl
def iF{R:Rd}{a:RS}(h:a.e≠0)(b:Nat):a.isKind R b=B':=by rw[RS.isKind,Z' h];try rfl
def gB{R:Rd}{a:RS}(h:a.e≠0)(b:cC):a.expect R b=a:=by rw[RS.expect,ea h,W' dc,qW h]
def nE{R:Rd}{a:RS}(h:a.e≠0)(b:Nat):a.word R b=a:=by rw[RS.word,iF h,W' dc,qW h]
def cq(a:Nat):RS:=⟨a,0,0⟩
def ga(R:Rd)(a:Nat)(b:cC):(cq a).is R b=cG (R.tok a) b:=rfl
def gf(R:Rd)(a b:Nat):(cq a).isKind R b=decide ((R.tok a).kind=b):=rfl
def fD{R:Rd}{a:Nat}{b:cC}(h:cG (R.tok a) b=A'):(cq a).expect R b=cq (a+1):=by rw[RS.expect,ga,h,X' rfl];try rfl
def gd{R:Rd}{a:Nat}{b:cC}(h:cG (R.tok a) b=B'):(cq a).expect R b=⟨a,(R.tok a).off,3⟩:=by rw[RS.expect,ga,h,W' dc];try rfl
def lm{R:Rd}{a b:Nat}(h:(R.tok a).kind=b):(cq a).word R b=cq (a+1):=by rw[RS.word,gf,a_ h,X' rfl];try rfl
def nb{R:Rd}{a b:Nat}(h:(R.tok a).kind≠b):(cq a).word R b=⟨a,(R.tok a).off,3⟩:=by rw[RS.word,gf,Z' h,W' dc];try rfl
theorem yC{e:VS}{i es a:Nat}{els:n_ cP}{R:Rd}{c:RS}(g:nth e i=q' (.row es (els.map λl=>l.map V.d)))(h:a=j' els){k:dt->Prop}(f:∀b,k (.ret (.dP [.d (.ps b 0 es a els),c.v R]))):
  cV 0 (.ret (.dP [.ms i es 0 a a,c.v R])) e λj d=>d=[]/\da j=A'/\k j:=by
 refine cV.freeze i (es:=es) (l:=els) g (dF els) (by simp[C1,r4,sv,RS.v,cl,h]) (λb=>?_);have m:qL i b els (.ret (.dP [.ms i es 0 a a,c.v R]))=.ret (.dP [.d (.ps b 0 es a els),c.v R]):=by
  have o:jN i b els (.ms i es 0 a a)=.d (.ps b 0 es a els):=by
   rw[jN,gr]
   grind
  have n:jN i b els (c.v R)=c.v R:=by simp[RS.v,jN,A5,cl]
  grind [qL,jN,A5]
 rw[m];refine cV.drop 0 (ai9 (ait _)) (uu 0 _) Z (cV.now Z ⟨Z,Z,f b⟩)
structure yZ (ty:Nat->PR Ty) (R:Rd) (lo:Nat):Prop where
 lt:∀p t q,lo<=p->p<j' R.ts->ty p=.ok t q->p<q/\q<j' R.ts
 call:∀p,lo<=p->p<j' R.ts->∀(σ:VS) (K:dt->VS->Prop),(∀t d q,ty p=.ok t q->fF t d->K (.ret (.dP [.agg (d.map V.d),(cq q).v R])) σ)->
  (∀off e q k m n a f,ty p=.bad off e->e≠0->q<j' R.ts->K (.ret (.dP [.agg [.d k,.d m,.d n,.d a,.d f],(RS.mk q off e).v R])) σ)->b7 C cm dh [(cq p).v R] σ K
 err:∀x:RS,x.e≠0->x.p<j' R.ts->∀(σ:VS) (K:dt->VS->Prop),(∀k m n a f,K (.ret (.dP [.agg [.d k,.d m,.d n,.d a,.d f],x.v R])) σ)->b7 C cm dh [x.v R] σ K
def yZ.up{b:Nat->PR Ty}{R:Rd}{c a:Nat}(h:yZ b R c)(g:c<=a):yZ b R a:=
 ⟨λe i f d=>h.lt e i f om,λe d=>h.call e om,h.err⟩
def uv(R:Rd)(a:RS)(e:a.e≠0)(c:a.p<j' R.ts){b:VS}{f:dt->VS->Prop}(d:f (.ret (.dP [.d .cu,a.v R])) b):b7 C cm iq [a.v R] b f:=by
 refine cI ?_ Z Z d;refine cD ?_;refine cL R a [91] c ?_;rw[ea e];refine cy ?_;exact qZ
def aeb(R:Rd)(g:PR (n_ Ty))(e:dt):Prop:=match g with
 |.ok d c=>∃a,ft d a/\e=.ret (.dP [.d a,(cq c).v R])
 |.bad b f=>f≠0/\∃a c,(∃d,ft d a)/\c<j' R.ts/\e=.ret (.dP [.d a,(RS.mk c b f).v R])
def aia:Nat->Bool:=λa=>ai3 a 24
def raS(R:Rd)(c:RS)(d:n_ V)(a:n_ cP):VS:=[.box (match c.v R with|.agg e=>e|_=>[]),.box d,.row 5 (a.map λb=>b.map V.d)]
def raT(a:Nat):Tm:=[(1,.bp 0 0),(2,.d .cu),(3,.bp 1 0),(4,.ms 2 5 0 a a)]
def y0:n_ V:=[.d .cu,cl 0,cl 0,cl 0]
def afv{a b:Nat}(h:a<=4294967296)(c:b=1:=by rfl):(a+b)*88<=en/\a+b<=en:=by
 unfold en;omega
def afw(c:Nat)(a:n_ cP)(b:cP):q' (V.ms c 5 0 (j' a+1) (j' a+1))=q' (V.ms c 5 0 (j' (a++[b])) (j' (a++[b]))):=by simp
def adl{c:Nat->Nat}(a:n_ cP)(b:cP):q' (cX.row 5 (aiW (j' a) (aiY 0 (a.map λb=>b.map V.d))++[b.map V.d]))=q' (eb c (.row 5 ((a++[b]).map λb=>b.map V.d))):=by
 rw[k9,aiM,aiv sm,aiE];try rfl
def QF(a:n_ cP)(b:cP):q' (cX.row 5 (aiW (j' a) (aiY 0 (a.map λb=>b.map V.d))++[b.map V.d]))=q' (.row 5 ((a++[b]).map λb=>b.map V.d)):=by
 rw[aiM,aiv sm,aiE];try rfl
def QG(R:Rd)(w:R.Wf)(e:Nat->PR Ty)(d:Nat)(x:d<j' R.ts)(v:yZ e R d):
  b7 C cm iq [(cq d).v R] [] λJ z=>z=[]/\da J=A'/\aeb R (fS e R d) J:=by
 have D:=w.len;refine cB aia (λ_=>Z) ?_;refine cL R (cq d) [91] x ?_;rw[ga];cases h:cG (R.tok d) [91]with
 |false=>
  refine cy ?_;refine cV.drop 0 ?_ ?_ ?_ ?_
  ·exact Z
  ·exact Z
  ·exact Z
  refine cV.now Z ⟨Z,Z,?_⟩;rw[fS,h,W' dc];exact⟨_,.nil,Z⟩
 |true=>
  have E:=w.step x h;refine ck.iter (λc:Nat×n_ Ty×n_ cP=>raT (j' c.2.2)) (λc=>raS R (cq c.1) y0 c.2.2) (λc=>j' R.ts-c.1)
   (λc=>d<=c.1/\c.1+1<j' R.ts/\j' c.2.2<=c.1/\dZ c.2.1 c.2.2/\∃g,j' R.ts-(c.1+1)<=g/\fS e R d=eO e R g c.2.1 (c.1+1)) ?_ (d,[],[]) ⟨aiy _,E,ait _,.nil,j' R.ts,by show (j' R.ts)-(d+1)<=j' R.ts;omega,by rw[fS,h,X' rfl]⟩
  rintro⟨i,I,a⟩ ⟨q,m,r,f,g,y,b⟩;have q:d<=i:=q;have m:i+1<j' R.ts:=m;have r:j' a<=i:=r;have f:dZ I a:=f;have y:j' R.ts-(i+1)<=g:=y;have b:fS e R d=eO e R g I (i+1):=b;obtain⟨g,rfl⟩:∃k,g=k+1:=⟨g-1,om⟩;rw[eO]at b;refine cT R (cq i) (by show i<4294967296;omega) ?_;refine v.call (i+1) om m _ _ (λO Q q1 o j=>?_) (λK S q1 k H F B t o p u=>?_)
  ·obtain⟨k,H,F,B,t,rfl⟩:=j.dL;have⟨M,l⟩:=v.lt (i+1) _ _ om m o;rw[o]at b;dsimp only at b;intro L;refine a6 Z (a6 ⟨Z,Z,by simp,aiy _,afv (show (j' a)<=4294967296 by omega)⟩ ?_);refine a7 Z (a7 (ej (j' a)) ?_);refine cL R (cq q1) [44] l ?_;rw[ga];cases s:cG (R.tok q1) [44]with
   |true=>
    rw[s,X' rfl]at b;refine⟨(q1,I++[O],a++[_]),⟨by show d<=q1;omega,w.step l s,by show(a++[_]).length<=q1;simp;omega,f.snoc j,g,by show (j' R.ts)-(q1+1)<=g;omega,b⟩,by show (j' R.ts)-q1<j' R.ts-i;omega,?_,Z,Z⟩;exact .pick 2 [0,1,5] ⟨Z,Z,Z,afw 5 a _,tv⟩ Z Z Z Z Z dc ⟨Z,Z,Z,Z,adl a _,fU _ _ _,tv⟩
   |false=>
    rw[s,W' dc]at b;refine cH R w (cq q1) [93] l ?_;cases n:cG (R.tok q1) [93]with
    |true=>
     rw[cw,n,X' rfl,cw]at b;rw[fD n];refine yC (i:=5) (es:=5) (els:=a++[[.int .i64 (ais k),.str H,.str F,B,t]]) ?_ sm (λN=>?_)
     ·exact QF a _
     rw[b];exact⟨_,.ps (f.snoc j) sm,Z⟩
    |false=>
     rw[cw,n,W' dc]at b;rw[gd n];refine yC (i:=5) (es:=5) (els:=a++[[.int .i64 (ais k),.str H,.str F,B,t]]) ?_ sm (λN=>?_)
     ·exact QF a _
     rw[b];exact⟨dc,_,q1,⟨_,.ps (f.snoc j) sm⟩,l,Z⟩
  rw[o]at b;dsimp only at b;refine aZ (λA=>?_) (λA=>Y' (jq A) p);refine cy ?_;refine cV.drop 0 ?_ ?_ ?_ ?_
  ·exact Z
  ·exact Z
  ·exact Z
  refine cV.now Z ⟨Z,Z,?_⟩;rw[b];exact⟨p,_,q1,⟨_,.nil⟩,u,Z⟩
def Eb(R:Rd)(w:R.Wf)(c:Nat->PR Ty)(i:Nat)(l:i<j' R.ts)(o:yZ c R i){f:VS}{m:dt->VS->Prop} 
  (q:∀j b d,fS c R i=.ok j d->ft j b->m (.ret (.dP [.d b,(cq d).v R])) f) (n:∀a g d b,fS c R i=.bad a g->g≠0->(∃j,ft j b)->d<j' R.ts->m (.ret (.dP [.d b,(RS.mk d a g).v R])) f):b7 C cm iq [(cq i).v R] f m:=by
 refine b7.closed (QG R w c i l o) Z (λs h=>?_);unfold aeb at h;split at h
 ·rename_i j d g;obtain⟨b,e,rfl⟩:=h;exact q j b d g e
 rename_i a r g;obtain⟨k,b,d,e,p,rfl⟩:=h;exact n a r d b g k e p
def Hh(R:Rd)(w:R.Wf)(b:Nat->PR Ty)(f:Nat)(h:f<j' R.ts)(l:yZ b R f){d:VS}{i:dt->VS->Prop} 
  (k:∀m e c,fS b R f=.ok m c->ft m e->i (.ret (.dP [.d e,(cq c).v R])) d) (j:∀a g c e,fS b R f=.bad a g->g≠0->c<j' R.ts->i (.ret (.dP [.d e,(RS.mk c a g).v R])) d):b7 C cm iq [(cq f).v R] d i:=
 Eb R w b f h l k (λa g c e p n _ o=>j a g c e p n o)
def aba(R:Rd)(f:PR Ty)(d:dt):Prop:=match f with
 |.ok i b=>∃c,fF i c/\d=.ret (.dP [.agg (c.map V.d),(cq b).v R])
 |.bad a e=>e≠0/\∃j k h l g b,b<j' R.ts/\d=.ret (.dP [.agg [.d j,.d k,.d h,.d l,.d g],(RS.mk b a e).v R])
def Hi(R:Rd)(w:R.Wf)(e:Nat->PR Ty)(b:Nat)(c:b<j' R.ts)(j:yZ e R b):
  b7 C cm jK [(cq b).v R] [] λx r=>r=[]/\da x=A'/\aba R (dE e R b) x:=by
 have v:=w.len;refine cD ?_;refine cH R w (cq b) [91] c ?_;have a:dE e R b=match cw R [[91]] b with
  |.bad n l=>.bad n l
  |.ok _ D=>match e D with
   |.bad n l=>.bad n l
   |.ok z q1=>match cw R [[93]] q1 with
    |.bad n l=>.bad n l
    |.ok _ q2=>.ok z q2:=rfl
 cases h:cG (R.tok b) [91]with
 |false=>
  rw[cw,h,W' dc]at a;rw[gd h];refine j.err _ (by show(3:Nat)≠0;decide) c _ _ (λk u t s A=>?_);refine cy ?_;refine cH R w _ [93] c ?_;rw[gB (by show(3:Nat)≠0;decide)];refine cy ?_;refine cV.drop 0 ?_ ?_ ?_ ?_
  ·exact Z
  ·exact Z
  ·exact Z
  refine cV.now Z ⟨Z,Z,?_⟩;rw[a];exact⟨dc,k,u,t,s,A,b,c,Z⟩
 |true=>
  rw[cw,h,X' rfl,cw]at a;rw[fD h];dsimp only at a;have p:=w.step c h;refine j.call (b+1) om p _ _ (λz E q1 f m=>?_) (λy l q1 k u t s q f i g=>?_)
  ·obtain⟨k,u,t,s,q,rfl⟩:=m.dL;have⟨B,o⟩:=j.lt (b+1) _ _ om p f;rw[f]at a;dsimp only at a;refine cy ?_;refine cH R w (cq q1) [93] o ?_;cases d:cG (R.tok q1) [93]with
   |true=>
    rw[cw,d,X' rfl,cw]at a;rw[fD d];refine cy ?_;refine cV.drop 0 ?_ ?_ ?_ ?_
    ·exact Z
    ·exact Z
    ·exact Z
    refine cV.now Z ⟨Z,Z,?_⟩;rw[a];exact⟨_,m,Z⟩
   |false=>
    rw[cw,d,W' dc]at a;rw[gd d];refine cy ?_;refine cV.drop 0 ?_ ?_ ?_ ?_
    ·exact Z
    ·exact Z
    ·exact Z
    refine cV.now Z ⟨Z,Z,?_⟩;rw[a];exact⟨dc,_,_,_,_,_,q1,o,Z⟩
  rw[f]at a;dsimp only at a;refine cy ?_;refine cH R w _ [93] g ?_;rw[gB i];refine cy ?_;refine cV.drop 0 ?_ ?_ ?_ ?_
  ·exact Z
  ·exact Z
  ·exact Z
  refine cV.now Z ⟨Z,Z,?_⟩;rw[a];exact⟨i,k,u,t,s,q,q1,g,Z⟩
def Iz(R:Rd)(w:R.Wf)(b:Nat->PR Ty)(f:Nat)(u:f<j' R.ts)(o:yZ b R f){d:VS}{l:dt->VS->Prop} 
  (s:∀j i c,dE b R f=.ok j c->fF j i->l (.ret (.dP [.agg (i.map V.d),(cq c).v R])) d) (m:∀a e c r x v n p,dE b R f=.bad a e->e≠0->c<j' R.ts->l (.ret (.dP [.agg [.d r,.d x,.d v,.d n,.d p],(RS.mk c a e).v R])) d):b7 C cm jK [(cq f).v R] d l:=by
 refine b7.closed (Hi R w b f u o) Z (λy h=>?_);unfold aba at h;split at h
 ·rename_i j c e;obtain⟨i,k,rfl⟩:=h;exact s j i c e k
 rename_i a t e;obtain⟨g,r,x,v,n,p,c,q,rfl⟩:=h;exact m a t c r x v n p e g q
end Go.Proofs.YtdocmpeionacbaaGreatDoor
namespace Go.VM
open Go.AM
def p9(b:n_ cC)(c:cC):Nat:=j' (b.takeWhile λa=>cS a c)
theorem QH{a:n_ cC}{d:cC}{c:Nat}(i:c<=j' a)(e:∀b∈a.take c,cS b d=A')(f:∀b,a[c]?=q' b->cS b d=B'):p9 a d=c:=by
 have g:a.takeWhile (λb=>cS b d)=a.take c:=by
  conv=>lhs;rw[<-aiR c a]
  rw[List.takeWhile_append_of_pos e];have:(a.drop c).takeWhile (λb=>cS b d)=[]:=by
   rcases ai8 c (j' a) with h|h
   ·grind [aiN,aiU]
   rw[aiQ h];try rfl
  rw[this,ai4]
 rw[p9,g,aiF];omega
theorem NH(a:n_ cC)(c:cC):p9 a c<=j' a:=by
 unfold p9;have h:a=a.takeWhile (λb=>cS b c)++a.dropWhile (λb=>cS b c):=List.takeWhile_append_dropWhile.symm
 grind
section
variable{α:Type} {key:α->cC}
theorem NI(b:α):∀a:n_ α,kI key b a=a.take (p9 (a.map key) (key b))++b::a.drop (p9 (a.map key) (key b)):=by
 intro a;induction a with
 |nil=>rfl
 |cons d a c=>
  all_goals grind [kI,p9,aiU,aiB]
theorem NJ{a:n_ α}(h:nJ key a)(b:cC):decide ((a.map key)[p9 (a.map key) b]?=q' b)=decide (b∈a.map key):=by
 induction a with
 |nil=>simp[p9]
 |cons e a d=>
  have c:=List.pairwise_cons.1 h;simp only[p9,List.map_cons,aiU];cases f:cS (key e) b with
  |true=>
   simp only[c_,aiB,List.getElem?_cons_succ,aiX];have:=d c.2
   grind [p9,MW]
  |false=>
   all_goals grind [Bool.false_eq_true,aiA,Option.some.injEq,List.mem_map.1]
end
end Go.VM
namespace Go.Proofs.YtdocmpeionacbaaGreatDoor
open Go.AM Go.VM
def rZ(b:n_ cC):n_ (n_ V):=(eY b).map λa=>a.map V.d
def abb{b c a:Nat}(h:b<=c)(d:c<4294967296)(e:a=1:=by rfl):(b+a)*16<=en/\b+a<=en:=by
 unfold en;omega
def UT{a:Nat->Nat}(b:n_ cC)(e:cC)(d:Nat)(c:d=j' b):q' (cX.row 1 (aiW d (aiY 0 (rZ b))++[[V.d (.str e)]]))=q' (eb a (.row 1 (rZ (b++[e])))):=by
 rw[rZ,rZ,k9,aiM,aiv (by simp[eY,c])];simp[eY]
def aec(b:Nat)(a:n_ cC):gP b (.row 1 (rZ a))=A':=fU b 1 (eY a)
theorem afx{a:n_ FE}{b:Nat}(e:b=j' a):cV 1 (.ret (.ms 1 1 0 b b)) [.row 7 (rows a),.row 1 (rZ (a.map FE.n))] λg d=>d=[.row 7 (rows a)]/\∃c,g=.ret (.d (.ps c 0 1 b (eY (a.map FE.n)))):=by
 refine cV.freeze 1 (es:=1) (l:=eY (a.map FE.n)) Z (dF _) (λ_=>⟨Z,by simp[eY,e]⟩) (λc=>?_);have f:qL 1 c (eY (a.map FE.n)) (.ret (.ms 1 1 0 b b))=.ret (.d (.ps c (0*1) 1 b (eY (a.map FE.n)))):=by
  show dt.ret (jN 1 c _ (.ms 1 1 0 b b))=_
  grind [jN,gr,eG,eY]
 rw[f];refine cV.drop 1 Z ?_ Z (cV.now Z ⟨Z,c,Z⟩);show(gP 1 (.row 7 (rows a))&&ml 1 _ 0)=A';rw[uu,aiZ];exact fU _ 7 (a.map fe)
def abc:Nat->Bool:=λa=>ai3 a 18
def QI(a:n_ FE)(c:Nat)(k:c=j' a)(n:c<4294967296):
  b7 C cm l7 [.ms 0 7 0 c c] [.row 7 (rows a)] λm h=>h=[.row 7 (rows a)]/\∃l,m=.ret (.d (.ps l 0 1 c (eY (a.map FE.n)))):=by
 refine cB abc (λ_=>Z) ?_;refine ck.iter (λb:Nat=>[(0,.ms 0 7 0 c c),(3,.ms 1 1 0 b b),(4,cl b)]) (λb=>[.row 7 (rows a),.row 1 (rZ ((a.take b).map FE.n))]) (λb=>c-b) (λb=>b<=c) ?_ 0 (ait _);intro b o;apply aZ<;>intro i
 ·have d:b<c:=eK i;have j:a[b]?=q' a[b]:=aix om;have e:nth (rows a) (0+b)=q' ((fe a[b]).map V.d):=by rw[aiL,cx,rows,aiI,aiI,j];try rfl
  have f:(a.take (b+1)).map FE.n=(a.take b).map FE.n++[a[b].n]:=by rw[aiD,j,aiE];try rfl
  have g:b=j' ((a.take b).map FE.n):=by simp;omega
  generalize a[b]=p at e f;refine bZ Z ?_;refine a6 d ?_;refine cp _ e ?_;intro l;refine a6 Z (a6 ⟨Z,Z,by simp[rZ,eY];omega,aiy _,abb (aiy b) om⟩ ?_);refine a7 Z (a7 (ej b) ?_);refine⟨b+1,d,ik,?_,Z,Z⟩;refine .pick 1 [0,2] ⟨Z,Z,int_eq (cF om),tv⟩ Z Z Z Z Z dc ⟨?_,?_,?_,aec _ _,tv⟩
  ·exact d_ q' (k9 _ 7 (a.map fe)).symm
  ·exact fU _ 7 (a.map fe)
  rw[f];exact UT _ _ _ g
 have d:c<=b:=dK i;obtain rfl:b=c:=om;rw[aiv om];exact afx k
def iG(a:n_ cC)(s:cC)(r i:Nat)(t:j' a<4294967296){l:VS}{q:dt->VS->Prop}(e:q (.ret (.dP [cl (p9 a s),cj (decide (a[p9 a s]?=q' s))])) l):
  b7 C cm wZ [.d (.ps r 0 1 i (eY a)),cv s] l q:=by
 have g:j' (eY a)=j' a:=by simp[eY]
 refine cA ?_;refine ck.iter (λb:Nat=>[(0,.d (.ps r 0 1 i (eY a))),(1,cv s),(6,cl b)]) (λ_=>l) (λb=>j' a-b) (λb=>b<=j' a/\∀p∈a.take b,cS p s=A') ?_ 0 ⟨ait _,by simp⟩;rintro b ⟨o,j⟩;apply aZ<;>intro f
 ·have h:b<j' a:=g▸eK f;have c:a[b]?=q' a[b]:=aix h;have hx:nth (eY a) b=q' [.str a[b]]:=by rw[cx,eY,aiI,c];try rfl
  refine cN ?_;refine bZ Z (cp _ hx ?_);refine cN ?_;apply aZ<;>intro m
  ·refine cN ?_;refine⟨b+1,⟨h,?_⟩,ik,.eS,Z,Z⟩;rw[aiD,c];intro p hx;rcases aiH.1 hx with hx|hx
   ·exact j p hx
   simp at hx;subst hx;exact m
  refine cN ?_;have d:p9 a s=b:=QH o j (λp hx=>by rw[c]at hx;cases hx;exact m);rw[d,c]at e;have n:decide (q' a[b]=q' s)=decide (a[b]=s):=decide_eq_decide.2 sm;rw[n]at e;repeat first|refine b9 f ?_|refine bZ rfl (cp _ hx ?_)|refine cO ?_
  exact e
 have h:j' a<=b:=g▸dK f;refine cN ?_;have d:p9 a s=b:=QH o j (λp hx=>by rw[ajb h]at hx;cases hx);rw[d,ajb h]at e;repeat first|refine a7 f ?_|refine cO ?_
 exact e
end Go.Proofs.YtdocmpeionacbaaGreatDoor
