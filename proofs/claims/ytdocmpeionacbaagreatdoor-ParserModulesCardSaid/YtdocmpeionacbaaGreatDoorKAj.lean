/- Part of the proof. -/
import Derived.Test.YtdocmpeionacbaaGreatDoorKAi
set_option linter.all false
set_option maxHeartbeats 16000000
set_option maxRecDepth 100000
open Bool renaming false_eq_true->ais,true->A',false->B'
open Int renaming ofNat->ait,ofNat_eq_natCast->aiH,ofNat_lt->ai0
open Nat renaming le_of_ble_eq_true->aiu,le_refl->aiv,beq->aiw,zero_le->aiE,mul_succ->aiO,ble_eq->aiP,mul_zero->aiT,lt_succ_self->aiU,blt->aiV,zero_add->aiW,mul_comm->aiX,le_trans->aiY
open List renaming length_cons->aix,length_append->aiy,append_nil->aiz,length_map->aiA,length_nil->aiB,eq_nil_of_length_eq_zero->aiC,map->aiD,take_of_length_le->aiF,append_assoc->aiG,getElem?_eq_getElem->aiI,take->aiJ,drop->aiK,nodup_append->aiM,find?->aiN,nodup_nil->aiQ,getElem?_map->aiR,flatten_cons->aiS,set_append_right->aiZ,flatten_append->ai1,mem_singleton->ai2,length->j'
open And renaming intro->aiL
open Option renaming some->q',none->u'
namespace Go.Proofs.YtdocmpeionacbaaGreatDoor
open Go.AM Go.VM
theorem ZC(g:Bool):∀d,M0 g d:=by
 intro d;induction d with
 |zero=>intro j e f l c a _ _ _ x o I D _ _ _ _ _ h;omega
 |succ d V=>
  intro j e f l c a N q i x o I D P b R p C h;by_cases s:j' e=1
  ·obtain⟨r,w,rfl⟩:=Lj e c
   grind [aiC,Pw]
  by_cases k:j' f=1
  ·obtain⟨r,t,rfl⟩:=Lj f a
   grind [aiC,Px]
  grind [Pz]
variable{W:V} {g:dt->VS->Prop}
def A4(a:Bool)(o c d r:n_ FE)(b:0<j' c)(N:0<j' d)(R:nJ FE.n c)(t:nJ FE.n d)(i:((c++d).map FE.n).Nodup)(h p q P:Nat)(D:n_ FE)(w:D=o++(c++(d++r)))(m:h=j' D)(u:p=j' o)(n:q=p+j' c)(s:P=q+j' d)(I:h<4294967296) 
  {j f:V} (l:W=cl p) (e:j=cl q) (k:f=cl P) (x:g (.ret (.dP [])) [.row (ew a) (dW a (o++(cz FE.n (c++d)++r)))]):b7 C cm (Wq a) [.ms 0 (ew a) 0 h h,W,j,f,(p0 a)] [.row (ew a) (dW a D)] g:=by
 subst l e k w;refine(ZC a _ o c d r b N R t i h p q P m u n s I (aiv _)).mono (λz v y=>?_);rw[y.1,y.2];exact x
def ZD(a:Bool)(c e k:n_ FE)(h:(e.map FE.n).Nodup)(f l t:Nat)(r:n_ FE)(p:r=c++(e++k))(w:f=j' r)(x:l=j' c)(o:t=j' c+j' e)(s:f<4294967296){d:V}(j:W=cl l)(i:d=cl t)(q:g (.ret (.dP [])) [.row (ew a) (dW a (c++(cz FE.n e++k)))]):
  b7 C cm (agc a) [.ms 0 (ew a) 0 f f,W,d,(p0 a)] [.row (ew a) (dW a r)] g:=by
 subst j i p;refine(Ew a c e k h f l t w x o s).mono (λN D I=>?_);rw[I.1,I.2];exact q
def pr(d:Nat)(c:n_ (n_ FE)):Prop:=∀a∈c,j' a=d/\nJ FE.n a
variable{H b y:Nat} {L:n_ (n_ FE)}
theorem pr.len(e:pr b L):j' L.flatten=b*j' L:=by
 induction L with
 |nil=>simp
 |cons d L a=>
  have h:=e d sm;have f:=a (λd c=>e d (by simp[c]))
  grind
variable{A:n_ FE}
def pr.snoc(f:pr b L)(d:j' A=b)(c:nJ FE.n A):pr b (L++[A]):=by
 intro e a;rcases List.mem_append.1 a with a|a
 ·exact f e a
 simp at a;subst a;exact⟨d,c⟩
def stT(c:Bool)(a d f e:Nat):Tm:=[(0,.ms 0 (ew c) 0 a a),(1,cl a),(2,(p0 c)),(6,cl d),(7,cl f),(8,cl e)]
theorem yk{a c:n_ FE}(d:((A++(a++c)).map FE.n).Nodup):(a.map FE.n).Nodup:=by
 grind [aiM,aiM.1]
theorem M1(q:Bool)(l:n_ FE)(E:(l.map FE.n).Nodup)(j:Nat)(F:j=j' l)(g:j<4294967296):
  b7 C cm (ahz q) [.ms 0 (ew q) 0 j j,cl j,(p0 q)] [.row (ew q) (dW q l)] λal aa=>aa=[.row (ew q) (dW q (cz FE.n l))]/\al=.ret (.dP []):=by
 have ai:q=q:=rfl;cases q;all_goals
  let q:Bool:=DU ai
  refine cA ?_;refine ck.iter (λf:n_ (n_ FE)×n_ FE=>stT q j 20 (20*j' f.1) (20*j' f.1+20)) (λf=>[.row (ew q) (dW q (f.1.flatten++f.2))]) (λf=>j' f.2)
   (λf=>pr 20 f.1/\(f.1.flatten++f.2).Perm l) ?_ ([],l) ⟨by intro af g;simp at g,by simp⟩
  rintro⟨o,e⟩ ⟨s,c⟩;have s:pr 20 o:=s;have c:(o.flatten++e).Perm l:=c;have b:=s.len;have r:j=20*j' o+j' e:=by rw[F,<-c.length_eq,aiy,b]
  have y:=zR (key:=FE.n) c E;apply aZ<;>intro u
  ·have R:20*j' o+20<=j:=ML u;obtain⟨i,n,rfl,m⟩:=Su e 20 om;have k:=yk y;refine ZD q o.flatten i n k j (20*j' o) (20*j' o+20) _ Z (by rw[F,<-c.length_eq]) b.symm om om Z Z ?_;refine⟨(o++[cz FE.n i],n),⟨s.snoc (by rw[fg,m]) (ii k),?_⟩,by show (j' n)<j' (i++n);rw[aiy];omega,.same ⟨Z,Z,Z,Z,int_eq ?_,int_eq ?_,tv⟩ ?_,Z,Z⟩
   ·show((o++[cz FE.n i]).flatten++n).Perm l;refine List.Perm.trans ?_ c;simp only[ai1,aiS,List.flatten_nil,aiz,aiG];exact List.Perm.append_left _ ((dU i).append_right _)
   ·show ait (20*j' o+20)=ait (20*j' (o++[cz FE.n i]));rw[aiy];rfl
   ·show IntKind.i64.wrap (ait (20*j' o+20)+20)=ait (20*j' (o++[cz FE.n i])+20);rw[aiy];exact dk (b:=20) om
   show _=[cX.row (ew q) (dW q ((o++[cz FE.n i]).flatten++n))];exact KH
  have R:j<20*j' o+20:=Fs u;have N:(e.map FE.n).Nodup:=by
   grind [yk]
  refine ZD q o.flatten e [] N j (20*j' o) j _ (by rw[aiz]) (by rw[F,<-c.length_eq]) b.symm om om Z Z ?_;have J:j' (cz FE.n e)=j' e:=fg e;have v:(o.flatten++cz FE.n e).Perm l:=(List.Perm.append_left _ (dU e)).trans c;have p:=ii (key:=FE.n) N;generalize cz FE.n e=W at J v p;refine ck.iter (λf:Nat×n_ (n_ FE)×n_ FE=>[(0,.ms 0 (ew q) 0 j j),(1,cl j),(2,(p0 q)),(6,cl f.1)]) (λf=>[.row (ew q) (dW q (f.2.1.flatten++f.2.2))]) (λf=>j-f.1)
   (λf=>0<f.1/\f.1<8589934592/\pr f.1 f.2.1/\nJ FE.n f.2.2/\j' f.2.2<f.1/\(f.2.1.flatten++f.2.2).Perm l) ?_ (20,o,W) ⟨by show 0<20;omega,by show 20<8589934592;omega,s,p,by show (j' W)<20;omega,v⟩ (.same ⟨rfl,rfl,rfl,rfl,tv⟩ (by rw[aiz]))
  clear c y N r R u J v p b s;rintro⟨a,o,e⟩ ⟨X,H,s,p,M,c⟩;have X:0<a:=X;have H:a<8589934592:=H;have s:pr a o:=s;have p:nJ FE.n e:=p;have M:j' e<a:=M;have c:(o.flatten++e).Perm l:=c;have b:=s.len;have r:j=a*j' o+j' e:=by rw[F,<-c.length_eq,aiy,b]
  apply aZ<;>intro u
  ·have R:a<j:=eK u;have K:IntKind.i64.wrap (2*ait a)=ait (2*a):=by
    rw[show(2:Int)*ait a=ait (2*a)from rfl,wrap64 (by simp only[aiH];omega) (by simp only[aiH];omega)]
   have Y:IntKind.i64.wrap (2*ait a)=ait (2*a*j' ([]:n_ (n_ FE))+2*a):=by
    rw[K];simp
   refine ck.iter (λf:n_ (n_ FE)×n_ (n_ FE)=>stT q j a (2*a*j' f.1) (2*a*j' f.1+2*a)) (λf=>[.row (ew q) (dW q (f.1.flatten++(f.2.flatten++e)))]) (λf=>j' f.2)
    (λf=>pr (2*a) f.1/\pr a f.2/\(f.1.flatten++(f.2.flatten++e)).Perm l) ?_ ([],o) ⟨by intro af g;simp at g,s,by simpa using c⟩ (.same ⟨rfl,rfl,rfl,rfl,rfl,int_eq Y,tv⟩ rfl)
   rintro⟨d,h⟩ ⟨t,w,c⟩;have t:pr (2*a) d:=t;have w:pr a h:=w;have c:(d.flatten++(h.flatten++e)).Perm l:=c;have L:=t.len;have ad:=w.len;obtain⟨x,T⟩:∃x,2*a*j' d=x:=⟨_,rfl⟩;have y:=zR (key:=FE.n) c E;have B:j=j' (d.flatten++(h.flatten++e)):=by rw[F,<-c.length_eq]
   have r:j=x+(a*j' h+j' e):=by rw[B,aiy,aiy,L,ad,T]
   have Q:x=j' d.flatten:=by rw[L,T]
   dsimp only;rw[T];apply aZ<;>intro U
   ·have ac:x+2*a<=j:=ML U;cases h with
    |nil=>simp only[aiB,aiT]at r;omega
    |cons i h=>
     cases h with
     |nil=>simp only[aix,aiB,aiO,aiT]at r;omega
     |cons V h=>
      have m:=w i sm;have aj:=w V sm;have P:d.flatten++((i::V::h).flatten++e)=d.flatten++(i++(V++(h.flatten++e))):=by simp only[aiS,aiG]
      have k:((i++V).map FE.n).Nodup:=by
       grind [aiG,yk]
      have D:IntKind.i64.wrap (ait x+ait a)=ait (x+a):=dk om;refine A4 q d.flatten i V (h.flatten++e) om om m.2 aj.2 k j x (x+a) (x+2*a) _ P B Q om om om Z (vi D) Z ?_;have S:j' (cz FE.n (i++V))=2*a:=by rw[fg,aiy];omega
      have ab:2*a*j' (d++[cz FE.n (i++V)])=x+2*a:=by
       grind
      refine⟨(d++[cz FE.n (i++V)],h),⟨t.snoc S (ii k),λaf g=>w af (by simp[g]),?_⟩,by show (j' h)<j' h+1+1;omega,.same ⟨Z,Z,Z,Z,int_eq ?_,int_eq ?_,tv⟩ ?_,Z,Z⟩
      ·show((d++[cz FE.n (i++V)]).flatten++(h.flatten++e)).Perm l;refine List.Perm.trans ?_ c;rw[P];simp only[ai1,aiS,List.flatten_nil,aiz,aiG];rw[<-aiG i];exact List.Perm.append_left _ ((dU (i++V)).append_right _)
      ·show ait (x+2*a)=ait (2*a*j' (d++[cz FE.n (i++V)]));rw[ab]
      ·show IntKind.i64.wrap (ait (x+2*a)+IntKind.i64.wrap (2*ait a))=ait (2*a*j' (d++[cz FE.n (i++V)])+2*a);rw[ab,K];exact dk om
      show _=[cX.row (ew q) (dW q ((d++[cz FE.n (i++V)]).flatten++(h.flatten++e)))];exact KH
   have ac:j<x+2*a:=Fs U;have A:IntKind.i64.wrap (ait a*2)=ait (a*2):=by
    grind
   have D:IntKind.i64.wrap (ait x+ait a)=ait (x+a):=dk om;cases h with
   |nil=>
    simp only[aiB,aiT,aiW]at r;have I:¬(x+a<j):=om;refine a7 (by rw[D];exact Z' (λak=>I (ai0.1 ak))) ?_;refine⟨(a*2,d,e),⟨by show 0<a*2;omega,by show a*2<8589934592;omega,by rw[aiX];exact t,p,by show (j' e)<a*2;omega,c⟩,by show j-a*2<j-a;omega,.same ⟨Z,Z,Z,int_eq A,tv⟩ Z,Z,Z⟩
   |cons i h=>
    cases h with
    |cons V h=>simp only[aix,aiO]at r;omega
    |nil=>
     have m:=w i sm;simp only[aix,aiB,aiO,aiT,aiW]at r;have P:d.flatten++([i].flatten++e)=d.flatten++(i++(e++[])):=by simp
     by_cases G:0<j' e
     ·have I:x+a<j:=om;refine b9 (by rw[D];exact a_ (ai0.2 I)) ?_;have k:((i++e).map FE.n).Nodup:=by
       grind [aiG,yk]
      refine A4 q d.flatten i e [] om G m.2 p k j x (x+a) j _ P B Q om om om Z (vi D) Z ?_;have S:j' (cz FE.n (i++e))=a+j' e:=by rw[fg,aiy];omega
      refine⟨(a*2,d,cz FE.n (i++e)),⟨by show 0<a*2;omega,by show a*2<8589934592;omega,by rw[aiX];exact t,ii k,by show(cz FE.n (i++e)).length<a*2;omega,?_⟩,by show j-a*2<j-a;omega,.same ⟨Z,Z,Z,int_eq A,tv⟩ (by rw[aiz]),Z,Z⟩;show(d.flatten++cz FE.n (i++e)).Perm l;refine List.Perm.trans ?_ c;rw[P,aiz];exact List.Perm.append_left _ (dU (i++e))
     have z:e=[]:=aiC om;have I:¬(x+a<j):=by rw[z]at r;simp only[aiB]at r;omega
     refine a7 (by rw[D];exact Z' (λak=>I (ai0.1 ak))) ?_;refine⟨(a*2,d,i),⟨by show 0<a*2;omega,by show a*2<8589934592;omega,by rw[aiX];exact t,m.2,by show (j' i)<a*2;omega,?_⟩,by show j-a*2<j-a;omega,.same ⟨Z,Z,Z,int_eq A,tv⟩ (by rw[P,z,aiz,aiz]),Z,Z⟩;show(d.flatten++i).Perm l;rw[P,z,aiz,aiz]at c;exact c
  have R:j<=a:=dK u;refine⟨?_,Z⟩;have ah:nJ FE.n (o.flatten++e):=by
   cases o with
   |nil=>simpa using p
   |cons af o=>
    have ag:=s af sm;simp only[aix,aiO]at r;have G:e=[]:=aiC om;have ae:o=[]:=by
     cases o with
     |nil=>rfl
     |cons am o=>simp only[aix,aiO]at r;omega
    subst G ae;simpa using ag.2
  rw[DT E c ah]
def DX(a:Bool)(c:n_ FE)(f:(c.map FE.n).Nodup)(e:Nat)(j:e=j' c)(i:e<4294967296):
  b7 C cm (ahA a) [.ms 0 (ew a) 0 e e,(p0 a)] [.row (ew a) (dW a c)] λk d=>d=[.row (ew a) (dW a (cz FE.n c))]/\k=.ret (.dP []):=by
 have h:a=a:=rfl;cases a;all_goals
  let a:Bool:=DU h
  refine cA ?_;refine(M1 a c f e j i).mono (λk d l=>?_);rw[l.1,l.2];exact⟨Z,Z⟩
variable{z:VS}
def PA(a:n_ FE)(o:(a.map FE.n).Nodup)(q:j' a<4294967296)(d:Nat)(l:d=j' a)(f:Nat)(e:nth z f=q' (.row 7 (rows a))) 
  (i:g (.ret (.ms f 7 0 d d)) (z.set f (.row 7 (rows (cz FE.n a))))):b7 C cm vB [.ms f 7 0 d d] z g:=by
 refine cA ?_;refine vb (fk:=[.ms 0 7 0 d d,p0 B']) (P:=λj c=>c=rows (cz FE.n a)/\j=.ret (.dP [])) ((DX B' a o d l om).mono λj p k=>?_) f e (sL a) Z Z (λj c k=>?_)
 ·obtain⟨rfl,rfl⟩:=k;exact⟨_,Z,Z,sL _,Z,Z⟩
 obtain⟨rfl,rfl⟩:=k;exact i
def Sx(a:g (.ret (.d .cu)) z):b7 C cm vB [.d .cu] z g:=by
 refine cA ?_;refine cA ?_;refine cA ?_;refine ck.loop ?_;refine cA ?_;refine ck.loop ?_;refine ck.loop ?_;exact a
def kO(a:Nat):n_ cP->cX
 |[]=>.gone
 |e::d=>.row a ((e::d).map λc=>c.map V.d)
def kV(d a:Nat):n_ cP->V
 |[]=>.d .cu
 |_::c=>.ms d a 0 (j' c+1) (j' c+1)
def ia(a:Nat)(c:n_ cP):gP 0 (kO a c)=A':=by
 cases c with
 |nil=>rfl
 |cons e d=>exact fU 0 a (e::d)
def Gy(c:Nat->Nat)(a:Nat)(d:n_ cP):eb c (kO a d)=kO a d:=gq c _ (ia a d)
def ug(d:b<=4294967296)(c:y<=1)(a:H<=200):(b+y)*H<=en/\b+y<=en:=by
 unfold en;constructor
 ·calc (b+y)*H<=4294967297*200:=Nat.mul_le_mul om a
   _<=_:=dc
 omega
def mY(a:Nat):Nat.ble (a+1+1) (a+1)=B':=by
 rw[<-Bool.not_eq_true,aiP];omega
def jx(f:Nat)(e:cC)(c:D)(d a:V):n_ V:=[cl f,cv [],cv e,cv [],cl 0,.d c,d,a]
def jz:n_ V:=[cl 0,cv [],cv [],cv [],cl 0,.d .cu,.d .cu,.d .cu]
def jfz:Nat->Bool:=λa=>aiw a 23
def aeS{c:dg}{a:FE}(f:c.n=a.n)(e:c.v=a.v)(d:c.lM=a.o):Ip c.rO a.ty=[.str a.n,.str a.v,.int .i64 (ait a.k),.str a.m,.str a.nm,a.a,a.f,.bool a.o]:=by
 rw[Ip,dg.rO,f,e,d];rfl
def kAt:Bool->Nat
 |false=>1
 |true=>5
def kO1(a:Bool)(c:n_ cP):cX:=match a with
 |false=>kO 8 c
 |true=>.gone
def kO5(a:Bool)(c:n_ cP):cX:=match a with
 |false=>.gone
 |true=>kO 8 c
theorem pt(a:Nat->Nat)(e c:Nat)(d:n_ cP):iN a (kV e c d)=kV (a e) c d:=by cases d<;>rfl
theorem mI(d a:Nat)(f:cP)(c:n_ cP)(e:cP):V.ms d a 0 (j' c+1+1) (j' c+1+1)=kV d a ((f::c)++[e]):=by simp[kV]
def uh(c:Nat->Nat)(a:n_ FE):q' (cX.row 9 (dW A' a))=q' (eb c (.row 9 (dW A' a))):=d_ q' (k9 c 9 (a.map (B2 A'))).symm
def M2(c:Nat->Nat)(a:Nat)(d:n_ cP):q' (kO a d)=q' (eb c (kO a d)):=d_ q' (Gy c a d).symm
theorem l2(d:Nat->Nat)(a:Nat)(f:cP)(e:n_ cP)(c:cP):q' (cX.row a (aiJ (j' e+1) (aiK 0 (aiD (λc=>aiD V.d c) (f::e)))++[c.map V.d]))=q' (eb d (kO a ((f::e)++[c]))):=by
 rw[Gy,List.drop_zero,aiF sm];simp[kO]
def mZ(c:Nat->Nat)(a:Nat)(d:cP):q' (cX.row a [d.map V.d])=q' (eb c (kO a ([]++[d]))):=by
 rw[Gy];rfl
def iE(d a:Nat)(c:n_ cP):gP d (kO a c)=A':=nM d _ (ia a c)
def M3(a:Nat->Nat)(c:Bool)(d:n_ cP):q' (kO1 c d)=q' (eb a (kO1 c d)):=by
 cases c
 ·exact M2 a 8 d
 rfl
def E1(a:Nat->Nat)(c:Bool)(d:n_ cP):q' (kO5 c d)=q' (eb a (kO5 c d)):=by
 cases c
 ·rfl
 exact M2 a 8 d
def Gz(d:Nat)(a:Bool)(c:n_ cP):gP d (kO1 a c)=A':=by
 cases a
 ·exact iE d 8 c
 rfl
def Sy(d:Nat)(a:Bool)(c:n_ cP):gP d (kO5 a c)=A':=by
 cases a
 ·rfl
 exact iE d 8 c
def M4(a:Nat->Nat)(c:cP):q' (cX.row 8 [c.map V.d])=q' (eb a (kO5 A' ([]++[c]))):=mZ a 8 c
def GA(c:Nat->Nat)(e:cP)(d:n_ cP)(a:cP):q' (cX.row 8 (aiJ (j' d+1) (aiK 0 (aiD (λa=>aiD V.d a) (e::d)))++[a.map V.d]))=q' (eb c (kO5 A' ((e::d)++[a]))):=l2 c 8 e d a
variable{Y:cX}
theorem Bt{a:cX}(c:gP 2 Y=A')(d:gP 2 a=A'):ml 2 (Y::a::z) 2=A':=by
 grind [ml]
variable{M:n_ ij}
def od.ZE(a:od M []):e9 M .cu:=by cases a;exact .nil
variable{E:n_ cP}
def od.psD{a:n_ cP}(c:od M E)(d:a=E):e9 M (.ps b y 8 H a):=d▸ .ps c
variable{F:n_ Ex}
def ir.ZE(a:ir F []):gn F .cu:=by cases a;exact .nil
def ir.psD{a:n_ cP}(c:ir F E)(d:a=E):gn F (.ps b y 8 H a):=d▸ .ps c
variable{v:Nat->Nat} {B:cC}
def Bu{d:D}{h a c:V}(e:W=iN v a)(f:h=iN v c):q' (cX.box (jx b B d W h))=q' (eb v (.box (jx b B d a c))):=by
 subst e f;rfl
def Bv{d:D}{e:V}(a:bd b W=A')(c:bd b e=A'):gP b (.box (jx y B d W e))=A':=by
 simp only[gP,jx,hP,bd,cl,cv,a,c];rfl
def p1(a:Nat)(c:n_ cP)(d:aiV y b=A'):bd b (kV y a c)=A':=by
 cases c with
 |nil=>rfl
 |cons f e=>exact d
variable{G:n_ dg}
theorem PB(H:Nat)(S:cC)(j:D){kids:n_ Ex}{oe:n_ cP}(k:ir kids oe)(ab:l0 G A)(ap:(A.map FE.n).Nodup)(aD:∀ac∈G,j' ac.val<=1)(I:j' kids<=1)(e:Nat)(aH:e=j' A)(aV:e<4294967295) 
  (l:∀(i:Bool) (t:n_ FE) (c a:n_ cP),(i=B'->a=oe)->od ((cz dg.n G).map dg.rO) c->ir (kids++(cz dg.n G).flatMap dg.val) a->j' a<=e+1->cV 2 (.ret (.agg (jx H S j (kV 4 8 c) (kV (kAt i) 8 a)))) [.row 9 (dW A' t),kO1 i a,.box (jx H S j (kV 4 8 c) (kV (kAt i) 8 a)),.box (jx H S j (kV 4 8 c) (kV (kAt i) 8 a)),kO 8 c,kO5 i a] g):
  b7 C cm kW [.agg (jx H S j (.d .cu) (.d .cu)),kV 1 8 oe,.ms 0 9 0 e e] [.row 9 (dW A' A),kO 8 oe] g:=by
 refine cB jfz (λ_=>Z) ?_;refine vb (fk:=[.ms 0 (ew A') 0 e e,p0 A']) (P:=λaq r=>r=dW A' (cz FE.n A)/\aq=.ret (.dP [])) ((DX A' A ap e aH om).mono λaq aP s=>?_) 0 Z (DV A) Z Z (λaq r s=>?_)
 ·obtain⟨rfl,rfl⟩:=s;exact⟨_,Z,Z,DV _,Z,Z⟩
 obtain⟨rfl,rfl⟩:=s;have Y:=ab.aeP;have ai:j' (cz dg.n G)=j' G:=(dU G).length_eq;have aM:=ab.len;have E:∀ac∈cz dg.n G,j' ac.val<=1:=λac aG=>aD ac ((dU G).subset aG);generalize cz dg.n G=d at Y ai E l;generalize cz FE.n A=t at Y⊢;obtain⟨x,F⟩:∃x,x=oe:=⟨_,rfl⟩;have b:∀(i:Bool) (c a:n_ cP),(i=B'->a=x)->od (d.map dg.rO) c->ir (kids++d.flatMap dg.val) a->j' a<=e+1->cV 2 (.ret (.agg (jx H S j (kV 4 8 c) (kV (kAt i) 8 a)))) [.row 9 (dW A' t),kO1 i a,.box (jx H S j (kV 4 8 c) (kV (kAt i) 8 a)),.box (jx H S j (kV 4 8 c) (kV (kAt i) 8 a)),kO 8 c,kO5 i a] g:=λi c a aF az au aB=>l i t c a (λs=>(aF s).trans F) az au aB;clear l;rcases oe with _|⟨N,W⟩;all_goals
  refine iV (fx:=[(13,.ms 0 9 0 e e),(14,cl e),(15,cl 0),(3,.bp 2 0),(6,.bp 3 0)]) ?_;refine ck.gone (ck.gone ?_);refine ck.iter (λh:Nat×Bool×n_ cP×n_ cP=>[(13,.ms 0 9 0 e e),(14,cl e),(15,cl h.1),(3,.bp 2 0),(6,.bp 3 0)])
   (λh=>[.row 9 (dW A' t),kO1 h.2.1 h.2.2.2,.box (jx H S j (kV 4 8 h.2.2.1) (kV (kAt h.2.1) 8 h.2.2.2)),.box jz,kO 8 h.2.2.1,kO5 h.2.1 h.2.2.2]) (λh=>e-h.1)
   (λh=>h.1<=e/\od ((d.take h.1).map dg.rO) h.2.2.1/\ir (kids++(d.take h.1).flatMap dg.val) h.2.2.2/\j' (kids++(d.take h.1).flatMap dg.val)<=h.1+1/\(h.2.1=B'->h.2.2.2=x)) ?_ (0,B',[],_) ⟨aiE _,.nil,by simpa using k,by simpa using I,λ_=>F.symm⟩
  rintro⟨f,i,c,oe⟩ ⟨O,v,K,z,y⟩;have aL:f<=e:=O;have u:od ((d.take f).map dg.rO) c:=v;have k:ir (kids++(d.take f).flatMap dg.val) oe:=K;have I:j' (kids++(d.take f).flatMap dg.val)<=f+1:=z;have J:i=B'->oe=x:=y;clear O v K z y;have aJ:=k.len;have B:j' oe<=f+1:=om;have ad:j' c<=f:=by rw[u.len,aiA,List.length_take];omega
  apply aZ<;>intro ah
  ·have T:f<e:=eK ah;have P:f<j' d:=om;have⟨R,av,aw,aC,aI,ae,ao⟩:=Y.get P;have al:nth (dW A' t) (0+f)=q' ((pe R).map V.d):=by rw[aiW];exact iX av
   have Q:d.take (f+1)=d.take f++[d[f]]:=by rw[List.take_add_one,aiI P];rfl
   have aO:j' d[f].val<=1:=E _ (List.getElem_mem P);have M:=aeS aw aC aI;have q:od ((d.take (f+1)).map dg.rO) (c++[[.str R.n,.str R.v,.int .i64 (ait R.k),.str R.m,.str R.nm,R.a,R.f,.bool R.o]]):=by
    rw[Q,List.map_append,<-M];exact u.snoc ae
   have p:kids++(d.take (f+1)).flatMap dg.val=(kids++(d.take f).flatMap dg.val)++d[f].val:=by
    grind
   have o:j' (kids++(d.take (f+1)).flatMap dg.val)<=f+1+1:=by rw[p,aiy];omega
   have L:d[f].val=[]->ir (kids++(d.take (f+1)).flatMap dg.val) oe:=λs=>by rw[p,s,aiz];exact k
   have ag:∀n,ir d[f].val [n]->ir (kids++(d.take (f+1)).flatMap dg.val) (oe++[n]):=λn s=>by rw[p];exact k.Wm s
   clear p k Q;have⟨aQ,ba,aR,aK,aX,aY,aS,aU,X⟩:=R;dsimp only at ao q M;refine bZ Z ?_;refine a6 T ?_;refine cp _ al ?_;intro aT;have aj:(X=.cu/\d[f].val=[])∨(∃am aa af,X=.ps am aa 8 af []/\d[f].val=[])∨∃am aa af n,X=.ps am aa 8 af [n]/\ir d[f].val [n]:=by
    obtain⟨ax,U⟩|⟨am,aa,af,r,U,ak⟩:=ao.inv
    ·exact .inl ⟨U,ax⟩
    have:=ak.len;rcases r with _|⟨n,_|⟨aW,aq⟩⟩
    ·grind [aiC]
    ·exact .inr (.inr ⟨am,aa,af,n,U,ak⟩)
    simp at this;omega
   rcases c with _|⟨m,an⟩;all_goals
    first
     |refine a6 rfl (a6 ⟨aiu rfl,aiu rfl⟩ (a7 rfl ?_))
     |refine a6 rfl (a6 ⟨rfl,rfl,by simp,aiv _,ug (by simp at ad;omega) (aiv _) (aiu rfl)⟩ (a7 rfl (a7 (mY (j' an)) ?_)))
    rcases aj with⟨rfl,w⟩|⟨aA,aE,ay,rfl,w⟩|⟨aA,aE,ay,n,rfl,w⟩;all_goals
     cases i;all_goals
      rcases oe with _|⟨N,W⟩;all_goals
       try refine a6 (rfl:8=_) ?_
       first
        |refine a6 ⟨aiu rfl,aiu rfl⟩ ?_
        |refine a6 ⟨rfl,rfl,by simp,aiv _,ug (by simp only[aix]at B;omega) sm (aiu rfl)⟩ ?_
       first
        |refine b9 rfl ?_
        |refine a7 rfl ?_
       try refine a7 (mY (j' W)) ?_
       first
        |refine⟨(f+1,B',_,_),⟨by show f+1<=e;omega,q,L w,o,J⟩,ik,.pick 2 [0,1,2,3,7,5] ⟨rfl,rfl,int_eq (cF om),rfl,rfl,tv⟩ rfl rfl rfl rfl rfl dc ⟨uh _ _,fU _ _ _,by first|exact M3 _ _ _|exact rfl,Gz _ _ _,Bu (by first|exact rfl|exact(mI _ _ m _ _).trans (pt _ _ _ _).symm) (by first|exact rfl|exact(mI _ _ N _ _).trans (pt _ _ _ _).symm),Bv (p1 8 _ rfl) (p1 8 _ rfl),rfl,rfl,by first|exact mZ _ _ _|exact l2 _ _ _ _ _,iE _ _ _,by first|exact E1 _ _ _|exact M4 _ _|exact GA _ _ _ _,Sy _ _ _,tv⟩,rfl,rfl⟩
        |refine⟨(f+1,A',_,_),⟨by show f+1<=e;omega,q,L w,o,λs=>Bool.noConfusion (show A'=B' from s)⟩,ik,.pick 2 [0,1,2,3,7,5] ⟨rfl,rfl,int_eq (cF om),rfl,rfl,tv⟩ rfl rfl rfl rfl rfl dc ⟨uh _ _,fU _ _ _,by first|exact M3 _ _ _|exact rfl,Gz _ _ _,Bu (by first|exact rfl|exact(mI _ _ m _ _).trans (pt _ _ _ _).symm) (by first|exact rfl|exact(mI _ _ N _ _).trans (pt _ _ _ _).symm),Bv (p1 8 _ rfl) (p1 8 _ rfl),rfl,rfl,by first|exact mZ _ _ _|exact l2 _ _ _ _ _,iE _ _ _,by first|exact E1 _ _ _|exact M4 _ _|exact GA _ _ _ _,Sy _ _ _,tv⟩,rfl,rfl⟩
        |refine⟨(f+1,A',_,_),⟨by show f+1<=e;omega,q,(ag _ w),o,λs=>Bool.noConfusion (show A'=B' from s)⟩,ik,.pick 2 [0,1,2,3,7,8] ⟨rfl,rfl,int_eq (cF om),rfl,rfl,tv⟩ rfl rfl rfl rfl rfl dc ⟨uh _ _,fU _ _ _,by first|exact M3 _ _ _|exact rfl,Gz _ _ _,Bu (by first|exact rfl|exact(mI _ _ m _ _).trans (pt _ _ _ _).symm) (by first|exact rfl|exact(mI _ _ N _ _).trans (pt _ _ _ _).symm),Bv (p1 8 _ rfl) (p1 8 _ rfl),rfl,rfl,by first|exact mZ _ _ _|exact l2 _ _ _ _ _,iE _ _ _,by first|exact E1 _ _ _|exact M4 _ _|exact GA _ _ _ _,Sy _ _ _,tv⟩,rfl,rfl⟩
  have T:e<=f:=dK ah;have ax:d.take f=d:=aiF om;rw[ax]at u k I;rcases c with _|⟨m,an⟩;all_goals
   cases i;all_goals
    rcases oe with _|⟨N,W⟩;all_goals
     exact b _ _ _ J u k (aiY B om)
def ve(i:Nat)(l:cC)(e:D){types:n_ Ty}(x:ft types e)(d:ir F E)(w:l0 G A)(p:(A.map FE.n).Nodup)(R:∀s∈G,j' s.val<=1)(h:j' F<=1)(a:Nat)(P:a=j' A)(N:a<4294967295):
  b7 C cm kW [.agg (jx i l e (.d .cu) (.d .cu)),kV 1 8 E,.ms 0 9 0 a a] [.row 9 (dW A' A),kO 8 E] λm q=>∃s n,q=[s,n]/\gP 0 s=A'/\gP 0 n=A'/\da m=A'/\∃u,iz (j9 i l types F G) u/\m=.ret (.agg (u.map V.d)):=by
 have b:j9 i l types F G=.mk i [] l [] 0 types ((cz dg.n G).map dg.rO) (F++(cz dg.n G).flatMap dg.val):=rfl;rw[b];refine PB i l e d w p R h a P N (λy z f E v k d _=>?_);rcases f with _|⟨I,g⟩;all_goals
  cases y;all_goals
   rcases E with _|⟨j,r⟩;all_goals
    first
     |refine cV.freeze 4 (es:=8) (l:=I::g) rfl (dF _) (by repeat' (first|exact tv|exact λc=>Y' (show(1:Nat)=4 from c) dc|exact λc=>Y' (show(5:Nat)=4 from c) dc|exact λ_=>⟨rfl,by simp⟩|refine aiL ?_ ?_)) λB=>?_
     |skip
    first
     |refine cV.freeze 1 (es:=8) (l:=j::r) rfl (dF _) (by repeat' (first|exact tv|exact λc=>Y' (show(1:Nat)=4 from c) dc|exact λc=>Y' (show(5:Nat)=4 from c) dc|exact λ_=>⟨rfl,by simp⟩|refine aiL ?_ ?_)) λt=>?_
     |refine cV.freeze 5 (es:=8) (l:=j::r) rfl (dF _) (by repeat' (first|exact tv|exact λc=>Y' (show(1:Nat)=4 from c) dc|exact λc=>Y' (show(5:Nat)=4 from c) dc|exact λ_=>⟨rfl,by simp⟩|refine aiL ?_ ?_)) λt=>?_
     |skip
    refine cV.drop 2 Z (Bt (fU _ _ _) (by first|rfl|exact Gz _ _ _)) Z (cV.now Z ⟨_,_,Z,fU _ _ _,by first|rfl|exact Gz _ _ _,Z,_,.mk x ?_ ?_,Z⟩)
    ·first|exact k.ZE|exact k.psD sm
    first|exact d.ZE|exact d.psD sm
def Sz(k:Nat)(p:cC)(f:D)(N:l0 G A)(q:(A.map FE.n).Nodup)(g:∀I∈G,j' I.val<=1)(e:Nat)(V:e=j' A)(R:e<4294967295):
  b7 C cm kW [.agg (jx k p f (.d .cu) (.d .cu)),.d .cu,.ms 0 9 0 e e] [.row 9 (dW A' A),.gone] λu s=>∃I r a,s=[I,.gone,kO 8 a]/\gP 0 I=A'/\e9 ((cz dg.n G).map dg.rO) r/\ir ((cz dg.n G).flatMap dg.val) a/\j' a<=e+1/\u=.ret (.agg (jx k p f (.d r) (kV 2 8 a))):=by
 refine PB (kids:=[]) (oe:=[]) k p f .nil N q g (aiE _) e V R (λx w j a i o l h=>?_);have t:(x=B'/\a=[])∨(x=A'/\a=[])∨∃c d,x=A'/\a=c::d:=by
  cases x
  ·exact .inl ⟨Z,i Z⟩
  rcases a with _|⟨c,d⟩
  ·exact .inr (.inl ⟨Z,Z⟩)
  exact .inr (.inr ⟨c,d,Z,Z⟩)
 clear i;rcases j with _|⟨P,n⟩;all_goals
  rcases t with⟨rfl,rfl⟩|⟨rfl,rfl⟩|⟨c,d,rfl,rfl⟩;all_goals
   first
    |refine cV.freeze 4 (es:=8) (l:=P::n) rfl (dF _) (by repeat' (first|exact tv|exact λm=>Y' (show(1:Nat)=4 from m) dc|exact λm=>Y' (show(5:Nat)=4 from m) dc|exact λ_=>⟨rfl,by simp⟩|refine aiL ?_ ?_)) λy=>?_
    |skip
   first
    |refine cV.pick [0,1,5] (gA:=[.row 9 (dW A' w),.gone,kO 8 []]) (r0:=.ret (.agg (jx k p f (.d _) (kV 2 8 [])))) rfl rfl rfl dc ⟨uh _ _,fU _ _ _,rfl,rfl,rfl,rfl,tv⟩ (cV.now rfl ⟨_,_,[],rfl,fU _ _ _,?_,l,h,rfl⟩)
    |refine cV.pick [0,1,5] (gA:=[.row 9 (dW A' w),.gone,kO 8 (c::d)]) (r0:=.ret (.agg (jx k p f (.d _) (kV 2 8 (c::d))))) rfl rfl rfl dc ⟨uh _ _,fU _ _ _,rfl,rfl,E1 _ A' _,iE _ _ _,tv⟩ (cV.now rfl ⟨_,_,c::d,rfl,fU _ _ _,?_,l,h,rfl⟩)
   first|exact o.ZE|exact o.psD sm
def Wr(e:Nat)(d:cC)(a:D):b7 C cm kW [.agg (jx e d a (.d .cu) (.d .cu)),.d .cu,.d .cu] [] λf c=>c=[]/\f=.ret (.agg (jx e d a (.d .cu) (.d .cu))):=by
 refine cD ?_;refine cA ?_;refine cA ?_;refine ck.loop ?_;refine cA ?_;refine ck.loop ?_;refine ck.loop ?_;exact CA
def ep(k:Nat->PR Ty)(c:Rd)(h i:cC)(a:Bool):Nat->n_ oK->Nat->PR (n_ oK)
 |0,_,_=>.bad 0 3
 |f+1,e,d=>
  if(c.tok d).kind≠1 then .bad (c.tok d).off 3
  else if(c.tok d).text∈e.map (·.1)then .bad (c.tok d).off 5
  else match cw c [[58]] (if a&&cG (c.tok (d+1)) [63]then d+1+1 else d+1)with
   |.bad l j=>.bad l j
   |.ok _ q2=>match k q2 with
    |.bad l j=>.bad l j
    |.ok o q1=>if cG (c.tok q1) i then .ok (e++[((c.tok d).text,o,a&&cG (c.tok (d+1)) [63])]) (q1+1)else match cw c [h] q1 with
     |.bad l j=>.bad l j
     |.ok _ q3=>ep k c h i a f (e++[((c.tok d).text,o,a&&cG (c.tok (d+1)) [63])]) q3
def PR.map{c a:Type}(d:c->a):PR c->PR a
 |.ok e h=>.ok (d e) h
 |.bad f i=>.bad f i
def ek(f:Nat->PR Ty)(e:Rd)(c a:cC)(d:Bool)(h:Nat):PR (n_ oK):=
 if cG (e.tok h) a then .ok [] (h+1)else(ep f e c a d (j' e.ts) [] h).map (cz (·.1))
def acm(f:Rd)(e:Nat)(a:n_ cC)(c:Bool):n_ FE->VS
 |[]=>[ee f e,.box [.bp 0 0],.box [cj c],.box [.d .cu],qQ a,.box [.map 4]]
 |x::d=>[ee f e,.box [.bp 0 0],.box [cj c],.box [.ms 6 7 0 (j' d+1) (j' d+1)],qQ a,.box [.map 4],.row 7 (rows (x::d))]
def Fq:n_ V:=[.d (.str []),.d (.int .i64 0),.d (.str []),.d (.str []),.d .cu,.d .cu,.d (.bool B')]
def aeT:Nat->Bool:=λa=>aiw a 18||aiw a 1000002
def agf:Nat->Bool:=λa=>aiw a 16||aiw a 24||aiw a 1000002
def ahD(a:cC)(c:Bool):cX:=.box [cv a,.d (.int .i64 0),.d (.str []),.d (.str []),.d .cu,.d .cu,cj c]
def M5(d:H<=b)(a:b<4294967296)(c:y=1):(H+y)*112<=en/\H+y<=en:=by
 unfold en;omega
def Yw(a:n_ FE):j' a+1<j' a+1+1:=aiU _
theorem N8(a:FE)(c:n_ FE):nth (aiJ (j' c+1) (aiK 0 (rows (a::c)))++[Fq]) (0+(j' c+1))=q' Fq:=by
 grind [cx,rows]
theorem ZF(a:FE)(c:n_ FE)(d:FE):(aiJ (j' c+1) (aiK 0 (rows (a::c)))++[Fq]).set (0+(j' c+1)) ((fe d).map V.d)=rows (a::(c++[d])):=by
 grind [aiF,rows,aiZ]
def Ws(a:FE)(c:n_ FE)(d:FE):q' (cX.row 7 ((aiJ (j' c+1) (aiK 0 (rows (a::c)))++[Fq]).set (0+(j' c+1)) ((fe d).map V.d)))=q' (eb v (.row 7 (rows (a::(c++[d]))))):=by
 rw[ZF];exact d_ q' (k9 v 7 ((a::(c++[d])).map fe)).symm
def acn(d:Nat)(a:n_ FE)(c:FE):q' (cX.box [.ms d 7 0 (j' a+1+1) (j' a+1+1)])=q' (cX.box [.ms d 7 0 (j' (a++[c])+1) (j' (a++[c])+1)]):=by simp
def Wt(a:n_ FE):j' a=j' (cz FE.n a):=(dU a).length_eq.symm
variable{O:n_ oK}
theorem Wu{x:FE}(d:(A.map FE.n).Nodup)(c:A.map FE.n=O.map (·.1))(a:x.n ∉ O.map (·.1)):((A++[x]).map FE.n).Nodup:=by
 grind [aiM,ai2]
def Uq{π:Nat->Nat}(c:n_ oK)(a:cC)(e:Ty)(d:Bool):q' (qQ (c.map (·.1)++[a]))=q' (eb π (qQ ((c++[(a,e,d)]).map (·.1)))):=by
 exact Cz
def Wv(h:Rd)(j:PR (n_ oK))(f:dt)(a:VS):Prop:=match j with
 |.ok k d=>a=[ee h d]/\∃e,uz k e/\f=.ret (.d e)
 |.bad c i=>∃d,a=[ee h d]/\f=.fJ (dX c i)
variable{Q:PR (n_ oK)} {n:Rd}
theorem aco(c a:Nat)(d:a=j' A)(f:nth z c=q' (.row 7 (rows A)))(h:po O A)(i:Q=.ok O b):
  cV 1 (.ret (.ms (c+1) 7 0 a a)) (ee n b::z) (Wv n Q):=by
 subst i;have j:a=j' (A.map fe):=by simpa using d
 refine cV.freeze (c+1) (es:=7) (l:=A.map fe) f (dF _) (λ_=>⟨Z,by simp[d]⟩) (λe=>?_);have l:qL (c+1) e (A.map fe) (.ret (.ms (c+1) 7 0 a a))=.ret (.d (.ps e (0*7) 7 a (A.map fe))):=by
  show dt.ret (jN (c+1) e (A.map fe) (.ms (c+1) 7 0 a a))=_
  grind [jN,gr,eG]
 rw[l];refine cV.drop 1 Z (by show(gP 1 (ee n b)&&ml 1 (z.set c .gone) 0)=A';rw[ml];rfl) Z (cV.now Z ?_);exact⟨Z,_,.ps h.fls,Z⟩
def Bw(a:Q=.bad y H):cV 1 (.fJ (dX y H)) (ee n b::z) (Wv n Q):=by
 subst a;exact cV.drop 1 Z (by show(gP 1 (ee n b)&&ml 1 z 0)=A';rw[ml];rfl) Z (cV.now Z ⟨b,Z,Z⟩)
def M6(a:Rd)(u:a.Wf)(j:Nat->PR Ty)(d e:cC)(c:Bool)(p:Nat)(W:p<j' a.ts)(Q:iW j a p):
  b7 C cm vz [.bp 0 0,cv d,cv e,cj c] [ee a p] (Wv a (ek j a d e c p)):=by
 have X:=u.len;refine cD ?_;refine b7.body aeT (λ_=>Z) ?_;refine dj a p (a.tok p) e (cn W) om 0 Z (λH=>?_) (λH=>?_)
 ·refine Sx ?_;refine a8 1 ?_;rw[ek,X' H];exact⟨Z,.cu,.nil,Z⟩
 refine ck.iter (λ_:Nat×n_ oK×n_ FE=>[(0,.bp 0 0),(1,cv d),(2,cv e),(3,.fn sD [] [.bp 1 0,.bp 5 0,.bp 2 0,.bp 3 0])]) (λx=>acm a x.1 (x.2.1.map (·.1)) c x.2.2) (λx=>j' a.ts-x.1)
  (λx=>p<=x.1/\x.1<j' a.ts/\j' x.2.2<=x.1/\po x.2.1 x.2.2/\(x.2.2.map FE.n).Nodup/\∃P,j' a.ts-x.1<=P/\ek j a d e c p=(ep j a d e c P x.2.1 x.1).map (cz (·.1))) ?_ (p,[],[]) ⟨aiv _,W,aiE _,.nil,aiQ,_,Nat.sub_le _ _,by rw[ek,W' (by rw[H];decide)]⟩
 rintro⟨q,w,F⟩ ⟨U,y,i,v,n,P,aa,he⟩;dsimp only at U y i v n aa he;have ad:=v.names;obtain⟨P,rfl⟩:∃k,P=k+1:=⟨P-1,om⟩;rw[ep]at he;apply de (ι:=FE×n_ FE×oK×Nat) (T:=λ_=>[(0,.bp 0 0),(1,cv d),(2,cv e),(3,.fn sD [] [.bp 1 0,.bp 5 0,.bp 2 0,.bp 3 0])]) (S:=λf=>acm a f.2.2.2 ((w++[f.2.2.1]).map (·.1)) c (f.1::f.2.1))
  (I:=λf=>q<f.2.2.2/\f.2.2.2<j' a.ts/\j' f.2.1<=q/\po (w++[f.2.2.1]) (f.1::f.2.1)/\((f.1::f.2.1).map FE.n).Nodup/\ek j a d e c p=(if cG (a.tok f.2.2.2) e then .ok (w++[f.2.2.1]) (f.2.2.2+1)else match cw a [d] f.2.2.2 with
    |.bad R D=>.bad R D
    |.ok _ q3=>ep j a d e c P (w++[f.2.2.1]) q3:PR (n_ oK)).map (cz (·.1)))
 ·intro T;obtain⟨N,hN1⟩:∃N,N=j' (acm a q [] c F):=⟨_,rfl⟩;obtain⟨M,hS⟩:∃M:Nat×Bool->VS,M=λf=>acm a f.1 (w.map (·.1)++[(a.tok q).text]) c F++[ahD (a.tok q).text f.2]:=⟨_,rfl⟩;rcases F with _|⟨x0,r⟩;all_goals
   refine b7.body agf (λ_=>Z) ?_;refine u9 a u q y (w.map (·.1)) 0 4 dc Z Z (λt o=>?_) (λt o=>Bw (by rw[he,W' (λH=>H t),X' o];rfl)) (λt=>Bw (by rw[he,X' t];rfl));have Vg:q+1<j' a.ts:=u.go q _ (cn y) om;rw[W' (λH=>H t),W' o]at he;apply de (ι:=Nat×Bool) (T:=λ_=>[(0,.bp 1 0),(3,.bp 3 0),(4,.bp N 0)]) (S:=M) (I:=λf=>q<f.1/\f.1<j' a.ts/\ek j a d e c p=(match cw a [[58]] f.1 with
    |.bad R D=>.bad R D
    |.ok _ q2=>match j q2 with
     |.bad R D=>.bad R D
     |.ok K q1=>if cG (a.tok q1) e then .ok (w++[((a.tok q).text,K,f.2)]) (q1+1)else match cw a [d] q1 with
      |.bad R D=>.bad R D
      |.ok _ q3=>ep j a d e c P (w++[((a.tok q).text,K,f.2)]) q3:PR (n_ oK)).map (cz (·.1)))
   ·intro hC;rcases Bool.eq_false_or_eq_true c with E|E<;>refine cN ?_
    ·refine dj a (q+1) (a.tok (q+1)) [63] (cn Vg) om 0 Z (λh=>?_) (λh=>?_)<;>rw[show(c&&cG (a.tok (q+1)) [63])=cG (a.tok (q+1)) [63]by rw[E];rfl,h]at he<;>refine cN ?_
     ·refine ck.arr (.same (fx:=[(0,.bp 1 0),(3,.bp 3 0),(4,.bp N 0)]) ⟨?_,?_,?_,tv⟩ ?_) (hC (q+1+1,A') ⟨by show q<q+2;omega,u.step Vg h,he⟩)<;>first|exact Z|(rw[hN1];exact Z)|(rw[hS];exact Z)
     exact Jr
    rw[show(c&&cG (a.tok (q+1)) [63])=B' by rw[E];rfl]at he;exact Jr
   rintro⟨q2,R⟩ ⟨A,h,he⟩;dsimp only at A h he;subst hS hN1;intro ak;refine kX a u [[58]] dc q2 h _ _ 0 Z ?_;cases l:cw a [[58]] q2 with
   |bad m D=>
    intro q3;exact Bw (by rw[he,l];rfl)
   |ok _ q3=>
    have ac:=dI _ _ _ l;have V:=eo u _ _ _ h l;rw[l]at he;dsimp only at he;refine Q.call q3 om V 0 _ _ Z (λK am q1 b L=>?_) (λm D q1 b=>Bw (by rw[he,b];rfl));obtain⟨k,aj,ah,O,ab,rfl⟩:=L.dL;have⟨ai,S⟩:=Q.lt q3 K q1 om V b;rw[b]at he
    let J:FE:=⟨(a.tok q).text,k,aj,ah,O,ab,R,[],.cu⟩
    have g:=v.snoc (x:=J) L;have s:=Wu (x:=J) n ad o;intro ae;have i:_<=q:=i;first
     |repeat first|refine bZ rfl ?_|refine cO ?_
      refine cp Fq Z ?_;refine ck.arr ?_ (T (_,[],_,q1) ⟨by show q<q1;omega,S,aiE _,g,s,he⟩);exact .pick 6 [0,1,2,3,4,5,7] ⟨Z,Z,Z,Z,tv⟩ Z Z Z Z Z dc ⟨Z,Z,Z,Z,Z,Z,Z,Z,Uq w _ K _,nM _ _ (ko _),Z,Z,Z,Z,tv⟩
     |refine a6 ?_ ?_
      ·repeat' (first|exact tv|exact rfl|exact aiv _|exact(M5 i om rfl).1|exact(M5 i om rfl).2|(simp only[rows,aiA,aix];omega)|refine bZ rfl ?_|refine aiL ?_ ?_)
      refine a6 Z (a6 ⟨Z,Z,by simp[rows],aiv _,M5 i om Z⟩ ?_);refine a7 Z (a7 (ej (j' r+1)) ?_);refine a6 ?_ ?_
      ·exact Jz
      refine bZ Z ?_;refine a6 (Yw r) ?_;refine a6 ?_ ?_
      ·exact Jz
      refine cp Fq (N8 x0 r) ?_;refine ck.arr ?_ (T (x0,r++[J],_,q1) ⟨by show q<q1;omega,S,by show(r++[J]).length<=q;rw[aiy];exact i,g,s,he⟩);exact .pick 6 [0,1,2,3,4,5,8] ⟨Z,Z,Z,Z,tv⟩ Z Z Z Z Z dc ⟨Z,Z,Z,Z,Z,Z,acn 8 r J,Z,Uq w _ K _,nM _ _ (ko _),Z,Z,Ws x0 r J,fU _ _ _,tv⟩
 rintro⟨O,r,ag,q1⟩ ⟨A,h,V,z,B,he⟩;dsimp only at A h V z B he;refine dj a q1 (a.tok q1) e (cn h) om 0 Z (λG=>?_) (λG=>?_)
 ·rw[X' G]at he;refine PA (O::r) B (by simp;omega) (j' r+1) Z 6 Z ?_;exact aco 5 _ (Wt (O::r)) Z z.aeP he
 rw[G]at he;intro af;refine kX a u [d] (by show 1<4294967296;decide) q1 h _ _ 0 Z ?_;cases l:cw a [d] q1 with
 |bad m D=>
  intro q3;exact Bw (by rw[he,l];rfl)
 |ok _ q3=>
  have ac:=dI _ _ _ l;rw[l]at he;exact⟨(q3,w++[ag],O::r),⟨by show p<=q3;omega,eo u _ _ _ h l,by show (j' r)+1<=q3;omega,z,B,P,by show (j' a.ts)-q3<=P;omega,he⟩,by show (j' a.ts)-q3<j' a.ts-q;omega,.eS,Z,Z⟩
variable{m:Nat->PR Ty}
def iW.up(f:iW m n b)(i:b<=y):iW m n y:=
 ⟨λe j h c a d=>f.lt e j h om a d,λe c a=>f.call e om a⟩
def PC(t:n.Wf)(l:∀a r f,b<=a->a<j' n.ts->m a=.ok r f->a<f/\f<j' n.ts):
  ∀(j:Nat) (d:n_ Ty) (a:Nat) (s:n_ Ty) (f:Nat),b<=a->a<j' n.ts->eO m n j d a=.ok s f->a<=f/\f<j' n.ts:=by
 intro j;induction j with
 |zero=>intro d a s f _ _ c;cases c
 |succ j q=>
  intro d a s f p o c;rw[eO]at c;cases h:m a with
  |bad w D=>rw[h]at c;cases c
  |ok r q1=>
   rw[h]at c;have⟨x,i⟩:=l a r q1 p o h;dsimp only at c;split at c
   ·rename_i k;have⟨I,C⟩:=q _ _ _ _ om (t.step i k) c;exact⟨om,C⟩
   cases e:cw n [[93]] q1 with
   |bad w D=>rw[e]at c;cases c
   |ok N q2=>
    rw[e]at c;cases c;have:=dI _ _ _ e;exact⟨om,eo t _ _ _ i e⟩
def Bx(e:n.Wf)(d:∀a f y,b<=a->a<j' n.ts->m a=.ok f y->a<y/\y<j' n.ts)(hp:b<j' n.ts){j:n_ Ty}(h:fS m n b=.ok j y):b<=y/\y<j' n.ts:=by
 rw[fS]at h;split at h
 ·rename_i c;have⟨k,i⟩:=PC e d _ _ _ _ _ om (e.step hp c) h;exact⟨om,i⟩
 exact q0
def Iq(w:n.Wf)(C:∀a P i,b<=a->a<j' n.ts->m a=.ok P i->a<i/\i<j' n.ts)(k o:cC)(e:Bool):
  ∀(x:Nat) (f:n_ oK) (a:Nat) (R:n_ oK) (i:Nat),b<=a->a<j' n.ts->ep m n k o e x f a=.ok R i->a<=i/\i<j' n.ts:=by
 intro x;induction x with
 |zero=>intro f a R i _ _ c;cases c
 |succ x N=>
  intro f a R i A D c;rw[ep]at c;split at c
  ·cases c
  rename_i p;have p:(n.tok a).kind=1:=by simpa using p
  have j:a+1<j' n.ts:=w.go a _ (cn D) om;split at c
  ·cases c
  have s:(if e&&cG (n.tok (a+1)) [63]then a+1+1 else a+1)<j' n.ts:=by
   split
   ·rename_i r;rw[Bool.and_eq_true]at r;exact w.step j r.2
   exact j
  have u:a+1<=(if e&&cG (n.tok (a+1)) [63]then a+1+1 else a+1):=by split<;>omega
  cases h:cw n [[58]] (if e&&cG (n.tok (a+1)) [63]then a+1+1 else a+1)with
  |bad V y=>rw[h]at c;cases c
  |ok E q2=>
   rw[h]at c;dsimp only at c;have t:=eo w _ _ _ s h;have g:=dI _ _ _ h;cases l:m q2 with
   |bad V y=>rw[l]at c;cases c
   |ok P q1=>
    rw[l]at c;dsimp only at c;have⟨z,q⟩:=C q2 P q1 om t l;split at c
    ·rename_i I;cases c;exact⟨om,w.step q I⟩
    cases d:cw n [k] q1 with
    |bad V y=>rw[d]at c;cases c
    |ok E q3=>
     rw[d]at c;have v:=dI _ _ _ d;have⟨F,B⟩:=N _ _ _ _ om (eo w _ _ _ q d) c;exact⟨om,B⟩
def rP(k:n.Wf)(j:∀d l y,b<=d->d<j' n.ts->m d=.ok l y->d<y/\y<j' n.ts){a:cC}{c:Bool}(h:b<j' n.ts)(f:ek m n B a c b=.ok O y):b<=y/\y<j' n.ts:=by
 rw[ek]at f;split at f
 ·rename_i i;cases f;exact⟨om,k.step h i⟩
 cases e:ep m n B a c (j' n.ts) [] b with
 |bad q r=>rw[e]at f;cases f
 |ok o p=>
  rw[e]at f;cases f;exact Iq k j B a c _ _ _ _ _ (aiv _) h e
def lC(r:n.Wf)(h:∀e l y,b<=e->e<j' n.ts->m e=.ok l y->e<y/\y<j' n.ts)(k:b<j' n.ts){x:Ty}(c:dE m n b=.ok x y):b<=y/\y<j' n.ts:=by
 rw[dE]at c;cases d:cw n [[91]] b with
 |bad o q=>rw[d]at c;cases c
 |ok t q1=>
  rw[d]at c;dsimp only at c;have w:=dI _ _ _ d;have j:=eo r _ _ _ k d;cases f:m q1 with
  |bad o q=>rw[f]at c;cases c
  |ok l q2=>
   rw[f]at c;dsimp only at c;have⟨s,i⟩:=h q1 l q2 om j f;cases a:cw n [[93]] q2 with
   |bad o q=>rw[a]at c;cases c
   |ok t q3=>
    rw[a]at c;cases c;have p:=dI _ _ _ a;exact⟨om,eo r _ _ _ i a⟩
def xh(R:Rd)(D:R.Wf)(i:Nat->PR Ty)(a c:cC)(f:Bool)(j:Nat)(r:j<j' R.ts)(t:iW i R j)(o:Nat)(k:nth z o=q' (ee R j)) 
  (h1:∀l d q,ek i R a c f j=.ok l q->uz l d->g (.ret (.d d)) (z.set o (ee R q))) (h2:∀off e q,ek i R a c f j=.bad off e->g (.fJ (dX off e)) (z.set o (ee R q))):b7 C cm vz [.bp o 0,cv a,cv c,cj f] z g:=by
 refine b7.one (fk:=[.bp 0 0,cv a,cv c,cj f]) (P:=λs w=>Wv R (ek i R a c f j) s [.box w]) ((M6 R D i a c f j r t).mono λs x h=>?_) o k Z Z Z (λs cs' h=>?_)
 ·have h':=h;unfold Wv at h;exact JU
 unfold Wv at h;exact Ja
def qR(c:Rd)(I:c.Wf)(d:Nat->PR Ty)(f:Nat)(x:f<j' c.ts)(t:iW d c f)(j:Nat)(i:nth z j=q' (ee c f)) 
  (w:∀p l e,dE d c f=.ok p e->fF p l->g (.ret (.agg (l.map V.d))) (z.set j (ee c e))) (r:∀a h e,dE d c f=.bad a h->g (.fJ (dX a h)) (z.set j (ee c e))):b7 C cm tX [.bp j 0] z g:=by
 refine b7.one (fk:=[.bp 0 0]) (P:=tyK c (dE d c f)) (Io c I d f x t) j i Z Z Z (λN D o=>?_);unfold tyK at o;split at o
 ·rename_i p e h;obtain⟨rfl,l,q,rfl⟩:=o;exact w p l e h q
 rename_i a s h;obtain⟨e,rfl,rfl⟩:=o;exact r a s e h
def GB(a:cC):Option Nat:=
 if a=[105,110,116]then q' 2 else if a=[98,111,111,108]then q' 3 else if a=[116,101,120,116]then q' 4 else if a=[97,110,121]then q' 0 else if a=[110,111,110,101]then q' 1 else u'
def adY:n_ tK:=[⟨cv [105,110,116],cl 2,0⟩,⟨cv [98,111,111,108],cl 3,1⟩,⟨cv [116,101,120,116],cl 4,2⟩,⟨cv [97,110,121],cl 0,3⟩,⟨cv [110,111,110,101],cl 1,4⟩]
variable{U:n_ tK}
def na{a:cC}:je .string (cv B) (⟨cv a,W,b⟩::U) y=match decide (B=a)with
   |true=>q' (q' (y,W))
   |false=>je .string (cv B) U (y+1):=rfl
def Ww{c:cC}{d:Option Nat}(h:(d=u'/\je .string (cv B) U (H+1)=q' u')∨∃f a,d=q' a/\je .string (cv B) U (H+1)=q' (q' (f,cl a))):
  ((if B=c then q' y else d)=u'/\je .string (cv B) (⟨cv c,cl y,b⟩::U) H=q' u')∨∃f a,(if B=c then q' y else d)=q' a/\je .string (cv B) (⟨cv c,cl y,b⟩::U) H=q' (q' (f,cl a)):=by
 by_cases e:B=c
 ·exact .inr ⟨H,y,X' e,by rw[na,a_ e]⟩
 rw[W' e,na,Z' e];exact h
def rQ(a:cC):(GB a=u'/\je .string (cv a) adY 0=q' u')∨∃d c,GB a=q' c/\je .string (cv a) adY 0=q' (q' (d,cl c)):=by
 iterate 5 refine Ww ?_
 exact .inl ⟨Z,Z⟩
def vf(d:Nat->PR Ty)(f:Rd)(c:Nat)(a:cC)(e i:Nat):PR Ty:=
 if c=5 then match GB a with
  |some o=>.ok (.mk o [] [] [] []) i
  |none=>if a=[108,105,115,116]then(dE d f i).map λl=>.mk 5 [] [] [l] []
   else if a=[102,110]then match cw f [[40]] i with
    |.bad k j=>.bad k j
    |.ok _ q1=>match ek d f [44] [41] A' q1 with
     |.bad k j=>.bad k j
     |.ok h q2=>(d q2).map λl=>.mk 8 [] [] [l] h
   else .bad e 3
 else if c=6 then
  if a=[123]then(ek d f [44] [125] B' i).map λh=>.mk 6 [] [] [] h
  else if a=[60]then(ek d f [124] [62] B' i).map λh=>.mk 7 [] [] [] h
  else .bad e 3
 else if c=2 then(fS d f i).map λh=>.mk 10 [] a h []
 else if c=1 then match cw f [[58,58]] i with
  |.bad k j=>.bad k j
  |.ok _ q1=>if(f.tok q1).kind≠2 then .bad (f.tok q1).off 3 else(fS d f (q1+1)).map λh=>.mk 10 a (f.tok q1).text h []
 else .bad e 3
def iM(a:Rd):Nat->Nat->PR Ty
 |0,_=>.bad 0 3
 |f+1,c=>vf (iM a f) a (a.tok c).kind (a.tok c).text (a.tok c).off (c+1)
def agh:Nat->Bool:=λa=>aiw a 37||aiw a 49||aiw a 56||aiw a 96
def M7(a:b≠y):decide (ait b=ait y)=B':=Z' (by simp only[aiH];omega)
def cY:Ty:=.mk 0 [] [] [] []
def fh{a:Type}(step:a->Nat->PR a)(h:Rd)(c:cC):Nat->a->Nat->PR a
 |0,_,_=>.bad 0 3
 |f+1,l,o=>match step l o with
  |.bad i j=>.bad i j
  |.ok d e=>if cG (h.tok e) c then .ok d (e+1)else match cw h [[44]] e with
   |.bad i j=>.bad i j
   |.ok _ k=>fh step h c f d k
def ec{a:Type}(step:a->Nat->PR a)(d:Rd)(c:cC)(f:a)(e:Nat):PR a:=
 if cG (d.tok e) c then .ok f (e+1)else fh step d c (j' d.ts) f e
def eg(d:Rd)(c:n_ dg)(a:Nat):PR cC:=
 if(d.tok a).kind≠1 then .bad (d.tok a).off 3 else if(d.tok a).text∈c.map dg.n then .bad (d.tok a).off 5 else .ok (d.tok a).text (a+1)
def eV(a:Nat->PR Ex)(e:Rd)(d:cC)(h:Nat):PR Ex:=match cw e [d] h with
 |.bad f i=>.bad f i
 |.ok _ c=>a c
def gx(c:Nat->PR Ex)(d:Rd)(a:n_ dg)(j:Nat):PR (n_ dg):=match eg d a j with
 |.bad k e=>.bad k e
 |.ok i f=>(eV c d [58] f).map λh=>a++[⟨i,[],cY,B',[h]⟩]
def dp(c:Rd)(a:Nat):PR cC:=if(c.tok a).kind≠1 then .bad (c.tok a).off 3 else .ok (c.tok a).text (a+1)
def fX(d:Nat->PR Ex)(e:Rd)(a:n_ dg)(l:Nat):PR (n_ dg):=match eg e a l with
 |.bad f c=>.bad f c
 |.ok j h=>match dp e h with
  |.bad f c=>.bad f c
  |.ok k q1=>(eV d e [61,62] q1).map λi=>a++[⟨j,k,cY,B',[i]⟩]
def eA(h:Nat->PR Ty)(e:Nat->PR Ex)(f:Rd)(a:n_ dg)(o:Nat):PR (n_ dg):=match eg f a o with
 |.bad d c=>.bad d c
 |.ok i k=>match cw f [[58]] k with
  |.bad d c=>.bad d c
  |.ok _ q1=>match h q1 with
   |.bad d c=>.bad d c
   |.ok j q2=>if cG (f.tok q2) [61]then(e (q2+1)).map λl=>a++[⟨i,[],j,A',[l]⟩]else .ok (a++[⟨i,[],j,B',[]⟩]) q2
def kh(c:Nat->PR Ex)(a:n_ Ex)(e:Nat):PR (n_ Ex):=(c e).map λd=>a++[d]
def iY(d:Nat->PR Ex)(e:Rd)(c:cC)(f:Nat)(a:n_ Ex)(h:Nat):PR Ex:=(ec (gx d e) e c [] h).map (j9 f [] [] a)
def qS(a:Nat)(d:Rd)(c:Nat):PR Ex:=
 if(d.tok c).kind≠3 then .bad (d.tok c).off 3 else match Lib.parseUintB 64 (d.tok c).text with
  |.ok e=>if a<e then .bad (d.tok c).off 2 else .ok (.mk 0 [] [] [] (if a=9223372036854775808 then IntKind.i64.wrap (IntKind.u64.wrap (0-ait e))else IntKind.i64.wrap (ait e)) [] [] []) (c+1)
  |_=>.bad (d.tok c).off 2
def o5(c:Tok)(a:n_ cC):Option cC:=a.find? (cG c)
def vg(next:Nat->PR Ex)(a:n_ cC)(i:Rd):Nat->Ex->Nat->PR Ex
 |0,_,_=>.bad 0 3
 |f+1,h,c=>match o5 (i.tok c) a with
  |none=>.ok h c
  |some d=>match next (c+1)with
   |.bad d k=>.bad d k
   |.ok j e=>vg next a i f (.mk 16 [] d [] 0 [] [] [h,j]) e
def og(next:Nat->PR Ex)(a:n_ cC)(c:Rd)(h:Nat):PR Ex:=match next h with
 |.bad f i=>.bad f i
 |.ok e d=>vg next a c (j' c.ts) e d
def iA(d:Nat->PR Ty)(a:Rd)(f:cC)(e:Nat):PR Ex:=
 match(if cG (a.tok e) [58,58]then(dp a (e+1)).map λl=>(4,f,l)else .ok (3,[],f) e:PR (Nat×cC×cC))with
 |.bad o j=>.bad o j
 |.ok (k,i,h) c=>if cG (a.tok c) [91]then(fS d a c).map λp=>.mk 4 i h [] 0 p [] []else .ok (.mk k i h [] 0 [] [] []) c
def fG(i:Nat->PR Ty)(f:Nat->PR Ex)(a:Rd)(c:Nat):PR Ex:=
 if(a.tok c).kind=3 then qS 9223372036854775807 a c
 else if(a.tok c).kind=4 then .ok (.mk 1 [] [] (a.tok c).text 0 [] [] []) (c+1)
 else if(a.tok c).kind=1 then iA i a (a.tok c).text (c+1)
 else if cG (a.tok c) [116,114,117,101]then .ok (.mk 2 [] [] [] 1 [] [] []) (c+1)
 else if cG (a.tok c) [102,97,108,115,101]then .ok (.mk 2 [] [] [] 0 [] [] []) (c+1)
 else if cG (a.tok c) [123]then iY f a [125] 5 [] (c+1)
 else if cG (a.tok c) [60]then match dp a (c+1)with
  |.bad d e=>.bad d e
  |.ok o h=>match eV f a [58] h with
   |.bad d e=>.bad d e
   |.ok j q1=>(cw a [[62]] q1).map λ_=>.mk 7 [] o [] 0 [] [] [j]
 else if cG (a.tok c) [91]then match i (c+1)with
  |.bad d e=>.bad d e
  |.ok k h=>match cw a [[124]] h with
   |.bad d e=>.bad d e
   |.ok _ q1=>(ec (kh f) a [93] [] q1).map λp=>.mk 14 [] [] [] 0 [k] [] p
 else if cG (a.tok c) [40]then match f (c+1)with
  |.bad d e=>.bad d e
  |.ok j h=>match(if cG (a.tok h) [58]then(i (h+1)).map λk=>.mk 11 [] [] [] 0 [k] [] [j]else .ok j h:PR Ex)with
   |.bad d e=>.bad d e
   |.ok l q1=>(cw a [[41]] q1).map λ_=>l
 else .bad (a.tok c).off 3
def lg(a:Nat->PR Ex)(c:Rd):Nat->Ex->Nat->PR Ex
 |0,_,_=>.bad 0 3
 |f+1,e,d=>
  if cG (c.tok d) [46]then match dp c (d+1)with
   |.bad h i=>.bad h i
   |.ok k q1=>lg a c f (.mk 6 [] k [] 0 [] [] [e]) q1
  else if cG (c.tok d) [40]then match iY a c [41] 9 [e] (d+1)with
   |.bad h i=>.bad h i
   |.ok j q1=>lg a c f j q1
  else .ok e d
def gK(d:Nat->PR Ty)(a:Nat->PR Ex)(c:Rd)(i:Nat):PR Ex:=match fG d a c i with
 |.bad h j=>.bad h j
 |.ok f e=>lg a c (j' c.ts) f e
def op1(c:cC)(a:Ex):Ex:=.mk 16 [] c [] 0 [] [] [a]
def ql(d:Nat->PR Ty)(a:Nat->PR Ex)(c:Rd):Nat->Nat->PR Ex
 |0,_=>.bad 0 3
 |f+1,e=>
  if cG (c.tok e) [108,101,110,103,116,104]then(ql d a c f (e+1)).map (op1 [108,101,110,103,116,104])
  else if cG (c.tok e) [45]then qS 9223372036854775808 c (e+1)
  else gK d a c e
def agi(d:Nat->PR Ty)(a:Nat->PR Ex)(c:Rd):Nat->PR Ex:=og (ql d a c (j' c.ts)) [[42]] c
def mv(c:Nat->PR Ty)(a:Nat->PR Ex)(d:Rd):Nat->PR Ex:=og (agi c a d) [[43],[45],[43,43]] d
def oh(c:Nat->PR Ty)(a:Nat->PR Ex)(d:Rd):Nat->Nat->PR Ex
 |0,_=>.bad 0 3
 |f+1,h=>
  if cG (d.tok h) [110,111,116]then(oh c a d f (h+1)).map (op1 [110,111,116])
  else match mv c a d h with
   |.bad l o=>.bad l o
   |.ok i e=>match o5 (d.tok e) [[61,61],[61,61,61],[60]]with
    |none=>.ok i e
    |some k=>(mv c a d (e+1)).map λj=>.mk 16 [] k [] 0 [] [] [i,j]
def agj(d:Nat->PR Ty)(a:Nat->PR Ex)(c:Rd):Nat->PR Ex:=og (oh d a c (j' c.ts)) [[97,110,100]] c
def Wx(c:Nat->PR Ty)(a:Nat->PR Ex)(d:Rd):Nat->PR Ex:=og (agj c a d) [[111,114]] d
def vW(a:Nat->PR Ex)(c:Rd)(k:Nat):PR Ex:=match dp c k with
 |.bad d e=>.bad d e
 |.ok j h=>match eV a c [61] h with
  |.bad d e=>.bad d e
  |.ok i q1=>(eV a c [105,110] q1).map λf=>.mk 10 [] j [] 0 [] [] [i,f]
def ol(f:Nat->PR Ty)(a:Nat->PR Ex)(e:Rd)(o:Nat):PR Ex:=match dE f e o with
 |.bad c d=>.bad c d
 |.ok l i=>match a i with
  |.bad c d=>.bad c d
  |.ok j q1=>match eV a e [116,104,101,110] q1 with
   |.bad c d=>.bad c d
   |.ok h q2=>(eV a e [101,108,115,101] q2).map λk=>.mk 12 [] [] [] 0 [l] [] [j,h,k]
def lD(f:Nat->PR Ty)(a:Nat->PR Ex)(e:Rd)(k:Nat):PR Ex:=match dE f e k with
 |.bad c d=>.bad c d
 |.ok j h=>match a h with
  |.bad c d=>.bad c d
  |.ok i q1=>match cw e [[123]] q1 with
   |.bad c d=>.bad c d
   |.ok _ q2=>(ec (fX a e) e [125] [] q2).map (j9 13 [] [j] [i])
def lE(f:Nat->PR Ty)(d:Nat->PR Ex)(e:Rd)(r:Nat):PR Ex:=match dE f e r with
 |.bad a c=>.bad a c
 |.ok p j=>match dp e j with
  |.bad a c=>.bad a c
  |.ok l q1=>match cw e [[44]] q1 with
   |.bad a c=>.bad a c
   |.ok _ q2=>match dp e q2 with
    |.bad a c=>.bad a c
    |.ok q q3=>match eV d e [105,110] q3 with
     |.bad a c=>.bad a c
     |.ok k q4=>match eV d e [102,114,111,109] q4 with
      |.bad a c=>.bad a c
      |.ok i h=>(eV d e [61,62] h).map λo=>.mk 15 [] l q 0 [p] [] [k,i,o]
def M8:Ex->Ex->Ex
 |.mk i j h f d types a c,e=>.mk i j h f d types a (c++[e])
def funcF(f:Nat->PR Ty)(a:Nat->PR Ex)(c:Rd)(i:Nat):PR Ex:=match cw c [[40]] i with
 |.bad d e=>.bad d e
 |.ok _ h=>match ec (eA f a c) c [41] [] h with
  |.bad d e=>.bad d e
  |.ok j q1=>(eV a c [61,62] q1).map (M8 (j9 8 [] [] [] j))
def DY(e:Nat->PR Ty)(d:Nat->PR Ex)(a:Rd)(c:Nat):PR Ex:=
 if(a.tok c).kind=5/\(a.tok c).text=[108,101,116]then vW d a (c+1)
 else if(a.tok c).kind=5/\(a.tok c).text=[105,102]then ol e d a (c+1)
 else if(a.tok c).kind=5/\(a.tok c).text=[109,97,116,99,104]then lD e d a (c+1)
 else if(a.tok c).kind=5/\(a.tok c).text=[102,111,108,100]then lE e d a (c+1)
 else if(a.tok c).kind=5/\(a.tok c).text=[102,110]then funcF e d a (c+1)
 else Wx e d a c
def By(a:Rd):Nat->Nat->PR Ex
 |0,_=>.bad 0 3
 |f+1,c=>DY (iM a (j' a.ts)) (By a f) a c
structure oo (g:FuncId) (fn:Nat->PR Ex) (R:Rd) (lo:Nat):Prop where
 lt:∀p x q,lo<=p->p<j' R.ts->fn p=.ok x q->p<q/\q<j' R.ts
 call:∀p,lo<=p->p<j' R.ts->∀(i:Nat) (σ:VS) (K:dt->VS->Prop),nth σ i=q' (ee R p)->(∀x d q,fn p=.ok x q->iz x d->K (.ret (.agg (d.map V.d))) (σ.set i (ee R q)))->
  (∀off e q,fn p=.bad off e->K (.fJ (dX off e)) (σ.set i (ee R q)))->b7 C cm g [.bp i 0] σ K
def Wy(i:Rd)(e:PR Ex)(h:dt)(c:n_ V):Prop:=match e with
 |.ok e d=>c=zl i d/\∃f,iz e f/\h=.ret (.agg (f.map V.d))
 |.bad a j=>∃d,c=zl i d/\h=.fJ (dX a j)
def Ra(f:Rd)(e:PR Ex)(d:dt)(c:VS):Prop:=∃a,c=[.box a]/\da d=A'/\hP 0 a=A'/\Wy f e d a
variable{K:FuncId}
def oo.of{fn:Nat->PR Ex}(c:∀a o q,b<=a->a<j' n.ts->fn a=.ok o q->a<q/\q<j' n.ts)(h:∀a,b<=a->a<j' n.ts->b7 C cm K [.bp 0 0] [ee n a] (Ra n (fn a))):oo K fn n b:=by
 refine⟨c,λa k j p r s f k1 k2=>?_⟩;refine b7.one (fk:=[.bp 0 0]) (P:=Wy n (fn a)) (h a k j) p f Z Z Z (λw l h=>?_);unfold Wy at h;exact tq
def oo.up{fn:Nat->PR Ex}(e:oo K fn n b)(c:b<=y):oo K fn n y:=
 ⟨λd h f a=>e.lt d h f (aiY c a),λd a=>e.call d (aiY c a)⟩
variable{X:Ex} {J:PR Ex}
def eL{a:cP}(d:J=.ok X b)(c:iz X a):Ra n J (.ret (.agg (a.map V.d))) [ee n b]:=by
 subst d;exact⟨_,Z,sK 0 a,Z,Z,a,c,Z⟩
def cZ(a:J=.bad b y):Ra n J (.fJ (dX b y)) [ee n H]:=by
 subst a;exact⟨_,Z,Z,Z,H,Z,Z⟩
def exV(e d:Nat)(c a:D):n_ V:=[cl e,cv [],cv [],cv [],cl d,.d c,.d .cu,.d a]
structure V4 (f:FuncId) (R:Rd) (p q k n:Nat) (P:D->D->Prop):Prop where
 call:∀(i:Nat) (σ:VS) (K:dt->VS->Prop),nth σ i=q' (ee R p)->(∀ty kids,P ty kids->K (.ret (.agg (exV k n ty kids))) (σ.set i (ee R q)))->b7 C cm f [.bp i 0] σ K
def ExR(j:Rd)(e i f:Nat)(k:D->D->Prop)(h:dt)(d:n_ V):Prop:=d=zl j e/\∃c a,k c a/\h=.ret (.agg (exV i f c a))
def V4.of{o:Nat}{p:D->D->Prop}(l:b7 C cm K [.bp 0 0] [ee n b] λh d=>∃a,d=[.box a]/\da h=A'/\hP 0 a=A'/\ExR n y H o p h a):V4 K n b y H o p:=
 ⟨λr q s e i=>b7.one (fk:=[.bp 0 0]) l r e rfl rfl rfl λh a l=>by
  obtain⟨rfl,k,c,j,rfl⟩:=l;exact i k c j⟩
def ZG(s:n.Wf)(k:b<j' n.ts)(a:n_ cC)(p:j' a<4294967296)(f:∀q∈a,cG (n.tok b) q=B')(i l c:Nat)(h:nth z i=q' (ee n b))(j:g (.ret (.d (.int .i64 (-1)))) z):
  b7 C cm l6 [.d (.ps l 0 1 c (gv a)),.fn lz [.bp i 0] []] z g:=by
 refine cA ?_;refine ck.less (fx:=[(0,.d (.ps l 0 1 c (gv a))),(1,.fn lz [.bp i 0] []),(7,cl (j' a)),(8,cl 0)]) ⟨Z,Z,int_eq (by simp[gv]),Z,tv⟩ ?_;refine ck.iter (λe:Nat=>[(0,.d (.ps l 0 1 c (gv a))),(1,.fn lz [.bp i 0] []),(7,cl (j' a)),(8,cl e)]) (λ_=>z) (λe=>j' a-e) (λe=>e<=j' a) ?_ 0 (aiE _);intro e r;apply aZ<;>intro o
 ·have d:e<j' a:=eK o;refine bZ Z ?_;refine cp [.str a[e]] (by rw[cx,gv,aiR,aiI d];rfl) ?_;refine sJ n b (n.tok b) a[e] (cn k) i h ?_;rw[f _ (List.getElem_mem d)];refine⟨e+1,d,ik,.eS,Z,Z⟩
 exact j
def acp:Nat->Bool:=λa=>aiw a 6
variable{S:n_ cC}
def Wz{d:Tok}(e:o5 d S=u'):∀a∈S,cG d a=B':=by
 intro a c;have:=List.find?_eq_none.1 e a c;simpa using this
theorem ui{k:Tok}:∀{a:n_ cC} {h:cC},o5 k a=q' h->∃i,∃d:i<j' a,a[i]=h/\cG k h=A'/\∀f (o:f<j' a),f<i->cG k a[f]=B':=by
 intro a;induction a with
 |nil=>intro h c;cases c
 |cons s t j=>
  intro h c;rw[o5,List.find?_cons]at c;split at c
  ·rename_i e;cases c;exact⟨0,by simp,Z,e,λf _ c=>om⟩
  rename_i e;have⟨i,d,r,l,q⟩:=j c;refine⟨i+1,by simpa using d,by simpa using r,l,λf o p=>?_⟩
  grind
def WA(k:b<j' n.ts)(a:n_ cC)(q:j' a<4294967296)(s:y<j' a)(l:cG (n.tok b) a[y]=A')(h:∀e (r:e<j' a),e<y->cG (n.tok b) a[e]=B')(e o d:Nat)(i:nth z e=q' (ee n b))(j:g (.ret (cl y)) z):
  b7 C cm l6 [.d (.ps o 0 1 d (gv a)),.fn lz [.bp e 0] []] z g:=by
 refine cA ?_;refine ck.less (fx:=[(0,.d (.ps o 0 1 d (gv a))),(1,.fn lz [.bp e 0] []),(7,cl (j' a)),(8,cl 0)]) ⟨Z,Z,int_eq (by simp[gv]),Z,tv⟩ ?_;refine ck.iter (λc:Nat=>[(0,.d (.ps o 0 1 d (gv a))),(1,.fn lz [.bp e 0] []),(7,cl (j' a)),(8,cl c)]) (λ_=>z) (λc=>j' a-c) (λc=>c<=y) ?_ 0 (aiE _);intro c p;have f:c<j' a:=om;refine b9 (a_ (by simp only[aiH];omega)) ?_;refine bZ Z ?_;refine cp [.str a[c]] (by rw[cx,gv,aiR,aiI f];rfl) ?_;refine sJ n b (n.tok b) a[c] (cn k) e i ?_;by_cases t:c=y
 ·subst t;rw[l];exact j
 rw[h c f om];refine⟨c+1,om,ik,.eS,Z,Z⟩
theorem acq(s:n.Wf){fn:Nat->PR Ex}(l:∀a e c,b<=a->a<j' n.ts->fn a=.ok e c->a<c/\c<j' n.ts):∀(h:Nat) (e:Ex) (a:Nat) (i:Ex) (c:Nat),b<=a->a<j' n.ts->vg fn S n h e a=.ok i c->a<=c/\c<j' n.ts:=by
 intro h;induction h with
 |zero=>intro e a i c _ _ f;cases f
 |succ h q=>
  intro e a i c p d f;rw[vg]at f;split at f
  ·cases f;exact⟨aiv _,d⟩
  rename_i t j;have⟨w,r,x,k,_⟩:=ui j;have o:=s.step d k;all_goals grind
def Bz(q:n.Wf){fn:Nat->PR Ex}(d:∀a f c,b<=a->a<j' n.ts->fn a=.ok f c->a<c/\c<j' n.ts):∀(a:Nat) (i:Ex) (c:Nat),b<=a->a<j' n.ts->og fn S n a=.ok i c->a<c/\c<j' n.ts:=by
 intro a i c l j h;rw[og]at h;split at h
 ·cases h
 rename_i f e k;have⟨r,p⟩:=d a f e l j k;have⟨s,o⟩:=acq q d _ f e i c om p h;exact⟨om,o⟩
def z8:n_ V:=[cl 0,cv [],cv [],cv [],cl 0,.d .cu,.d .cu,.d .cu]
def agk:Nat->Bool:=λa=>aiw a 27
def SA(o:(C.ff.get b).isSome=A')(a:n_ cC)(g:j' a<4294967296)(S:n.Wf){fn:Nat->PR Ex}(q:oo b fn n y)(P:y<j' n.ts)(A j:Nat):
  b7 C cm vA [.bp 0 0,.fn b [.bp 0 0] [],.d (.ps A 0 1 j (gv a))] [ee n y] (Ra n (og fn a n y)):=by
 have G:=S.len;refine cB agk (λ_=>Z) ?_;refine b9 o ?_;refine q.call y (aiv _) P 0 _ _ Z (λx W d B e=>?_) (λm B d O=>?_)
 ·have⟨h,f⟩:=q.lt y x d (aiv _) P B;obtain⟨k,ad,ac,H,N,L,M,F,rfl⟩:=e.eight;refine ck.iter (λ_:Nat×Ex×cP=>[(0,.bp 0 0),(1,.fn b [.bp 0 0] []),(2,.d (.ps A 0 1 j (gv a))),(6,.bp 1 0),(7,.bp 2 0)]) (λl=>[ee n l.1,.box z8,.box (l.2.2.map V.d)]) (λl=>j' n.ts-l.1)
   (λl=>y<l.1/\l.1<j' n.ts/\iz l.2.1 l.2.2/\∃p,j' n.ts-l.1<p/\og fn a n y=vg fn a n p l.2.1 l.1) ?_ (d,x,_) ⟨h,f,e,j' n.ts,by show (j' n.ts)-d<j' n.ts;omega,by rw[og,B]⟩
  rintro⟨d,x,W⟩ ⟨h,f,e,p,R,c⟩;have h:y<d:=h;have f:d<j' n.ts:=f;have e:iz x W:=e;have R:j' n.ts-d<p:=R;have c:og fn a n y=vg fn a n p x d:=c;obtain⟨k,ad,ac,H,N,L,M,F,rfl⟩:=e.eight;obtain⟨p,rfl⟩:∃J,p=J+1:=⟨p-1,om⟩;rw[vg]at c;cases i:o5 (n.tok d) a with
  |none=>
   rw[i]at c;refine ZG S f a g (Wz i) 0 A j Z ?_;refine a8 1 (eL c e)
  |some ah=>
   rw[i]at c;obtain⟨E,z,rfl,w,D⟩:=ui i;have t:=S.step f w;refine WA f a g z w D 0 A j Z ?_;refine j8 n d (n.tok d) (cn f) om 0 Z ?_;have I:gZ (n.tok d) d=d+1:=by rw[gZ,W' (u6 w)]
   rw[I];have u:nth (gv a) E=q' [.str a[E]]:=by rw[cx,gv,aiR,aiI z];rfl
   repeat first|refine bZ rfl ?_|refine cp _ u ?_|refine b9 o ?_
   refine db ?_;refine b9 o ?_;refine q.call (d+1) om t 0 _ _ ?_ (λX d2 q2 r s=>?_) (λm B q2 r=>?_)
   ·exact Z
   ·have⟨Q,v⟩:=q.lt (d+1) X q2 om t r;rw[r]at c;obtain⟨af,ab,ag,U,K,aa,Y,T,rfl⟩:=s.eight;intro ae;refine db ?_;refine⟨(q2,.mk 16 [] a[E] [] 0 [] [] [x,X],_),⟨by show y<q2;omega,v,.mk .nil .nil (.ps (.cons e (.cons s .nil))),p,by show (j' n.ts)-q2<p;omega,c⟩,by show (j' n.ts)-q2<j' n.ts-d;omega,.eD 3,Z,Z⟩
   rw[r]at c;refine a8 1 (cZ c)
 refine a8 1 (cZ (by rw[og,O]))
def Rd.Ng(c:Rd):Prop:=∀a,(c.tok a).kind=3->(∃d,Lib.parseUintB 64 (c.tok a).text=.ok d)/\j' (c.tok a).text<281474976710656
def agl(d:j' B<281474976710656)(h:Lib.parseUintB 64 B=.ok b)(c:g (.ret (.dP [.d (.int .u64 (ait b)),.d .AN])) z):b7 C cm yW [cv B,cl 10,cl 64] z g:=by
 refine C3 (args:=[.str B,.int .i64 (ait 10),.int .i64 (ait 64)]) (xs:=[.int .u64 (ait b),.AN]) ?_ ?_ c
 ·have f:aiV (j' B) 281474976710656=A':=by simpa [Nat.blt_eq]using d
  show(match aiV (j' B) 281474976710656 with
   |true=>match Lib.parseUintB 64 B with
    |.ok b=>q' (Value.tuple ⟨[.int .u64 (.ofNat b),.nilIface]⟩)
    |_=>u'
   |false=>u')=_
  rw[f,h];rfl
 intro j a;simp only[List.mem_cons,List.not_mem_nil,or_false]at a;rcases a with rfl|rfl<;>rfl
def WB(s:n.Wf)(j:n.Ng)(a c:Nat)(i:c<j' n.ts)(o:a=9223372036854775807∨a=9223372036854775808):
  b7 C cm vH [.bp 0 0,.d (.int .u64 (ait a))] [ee n c] (Ra n (qS a n c)):=by
 have q:=s.len;refine cD ?_;refine iL n c _ (cn i) 0 Z ?_;refine u7 n c 3 _ (cn i) om 0 Z (λf=>?_) (λf=>?_)
 ·have h:gZ (n.tok c) c=c+1:=by rw[gZ,W' om]
  rw[h];have⟨⟨r,d⟩,p⟩:=j c f;refine agl p d ?_;apply aZ<;>intro l
  ·refine cN ?_;refine jl _ (n.tok c).off 2 ?_;refine a8 1 (cZ (by rw[qS,W' om,d];dsimp only;rw[X' (eK l)]))
  refine cN ?_;have e:¬a<r:=by have:=dK l;omega
  rcases o with rfl|rfl
  ·refine a8 1 (eL (by rw[qS,W' om,d];dsimp only;rw[W' e,W' om]) (.mk .nil .nil .nil))
  refine a8 1 (eL (by rw[qS,W' om,d];dsimp only;rw[W' e,X' rfl]) (.mk .nil .nil .nil))
 refine a8 1 (cZ (by rw[qS,X' f]))
def iZ(k:n.Wf)(s:cC)(c:b<j' n.ts)(j a f:Nat)(d:nth z f=q' (ee n b))(h:cG (n.tok b) s=A'->b+1<j' n.ts->g (.ret (.dP [])) (z.set f (ee n (b+1))))(i:cG (n.tok b) s=B'->∀l,g (.fJ (dX (n.tok b).off 3)) (z.set f (ee n l))):
  b7 C cm zc [.bp f 0,.d (.ps j 0 1 a (gv [s]))] z g:=by
 refine kX n k [s] (by show 1<4294967296;decide) b c j a f d ?_;cases e:cG (n.tok b) s with
 |true=>rw[cw,X' e];exact h e (k.step c e)
 |false=>rw[cw,W' (by rw[e];decide)];exact i e
def sM(i:(C.ff.get b).isSome=A')(a:n_ cC)(p:j' a<4294967296)(x:n.Wf){fn:Nat->PR Ex}(l:oo b fn n y)(o:y<j' n.ts)(r c f:Nat)(j:nth z f=q' (ee n y)) 
  (k1:∀s d q,og fn a n y=.ok s q->iz s d->g (.ret (.agg (d.map V.d))) (z.set f (ee n q))) (k2:∀off e q,og fn a n y=.bad off e->g (.fJ (dX off e)) (z.set f (ee n q))):
  b7 C cm vA [.bp f 0,.fn b [.bp f 0] [],.d (.ps r 0 1 c (gv a))] z g:=by
 refine b7.one (fk:=[.bp 0 0,.fn b [.bp 0 0] [],.d (.ps r 0 1 c (gv a))]) (P:=Wy n (og fn a n y)) (SA i a p x l o r c) f j Z Z Z (λD w h=>?_);unfold Wy at h;exact tq
def agm(l:n.Wf){fn:Nat->PR Ex}(a:oo w7 fn n b):oo Bm (og fn [[42]] n) n b:=by
 refine oo.of (Bz l (λj h c o=>a.lt j h c o)) (λj f d=>?_);refine cB acp (λ_=>Z) ?_;intro p;refine sM Z [[42]] dc l (a.up f) d p _ 0 Z (λh r c e hd=>?_) (λi q c e=>?_)
 ·exact xQ
 refine a8 1 (cZ e)
def agn(l:n.Wf){fn:Nat->PR Ex}(a:oo Bm fn n b):oo Bl (og fn [[43],[45],[43,43]] n) n b:=by
 refine oo.of (Bz l (λj h c o=>a.lt j h c o)) (λj f d=>?_);refine cB acp (λ_=>Z) ?_;intro p;refine sM Z [[43],[45],[43,43]] dc l (a.up f) d p _ 0 Z (λh r c e hd=>?_) (λi q c e=>?_)
 ·exact xQ
 refine a8 1 (cZ e)
def ago(l:n.Wf){fn:Nat->PR Ex}(a:oo Bj fn n b):oo Be (og fn [[97,110,100]] n) n b:=by
 refine oo.of (Bz l (λj h c o=>a.lt j h c o)) (λj f d=>?_);refine cB acp (λ_=>Z) ?_;intro p;refine sM Z [[97,110,100]] dc l (a.up f) d p _ 0 Z (λh r c e hd=>?_) (λi q c e=>?_)
 ·exact xQ
 refine a8 1 (cZ e)
def ahE(l:n.Wf){fn:Nat->PR Ex}(a:oo Be fn n b):oo sw (og fn [[111,114]] n) n b:=by
 refine oo.of (Bz l (λj h c o=>a.lt j h c o)) (λj f d=>?_);refine cB acp (λ_=>Z) ?_;intro p;refine sM Z [[111,114]] dc l (a.up f) d p _ 0 Z (λh r c e hd=>?_) (λi q c e=>?_)
 ·exact xQ
 refine a8 1 (cZ e)
def agp:Nat->Bool:=λa=>aiw a 8||aiw a 18||aiw a 14||aiw a 24||aiw a 25
variable{u:Nat->PR Ex}
def WC(x:n.Wf)(d:oo dz u n b)(q:b<j' n.ts):
  b7 C cm uV [.bp 0 0] [ee n b] (Ra n (vW u n b)):=by
 have P:=x.len;refine cB agp (λ_=>Z) ?_;refine lZ n b _ (cn q) om 0 Z (λa=>?_) (λa=>?_)
 ·have o:b+1<j' n.ts:=x.go b _ (cn q) om;intro z;refine iZ x [61] o z _ 0 Z (λc h=>?_) (λc w=>?_)
  ·refine cy ?_;refine d.call (b+1+1) om h 0 _ _ Z (λF G w j l=>?_) (λr D w j=>?_)
   ·have⟨v,t⟩:=d.lt _ _ _ om h j;obtain⟨k,A,y,R,p,V,g,N,rfl⟩:=l.eight;intro B;refine db ?_;intro I;refine iZ x [105,110] t I _ 0 Z (λe s=>?_) (λe w=>?_)
    ·refine cy ?_;refine d.call (w+1) om s 0 _ _ Z (λH d2 q2 i f=>?_) (λr D q2 i=>?_)
     ·obtain⟨k,A,y,R,p,V,g,N,rfl⟩:=f.eight;intro E;refine db ?_;intro m;refine db ?_;refine a8 1 (eL (by simp only[vW,dp,a,eV,cw,c,j,e,i,ne_eq,not_true,b_,c_,PR.map]) (.mk .nil .nil (.ps (.cons l (.cons f .nil)))))
     refine a8 1 (cZ (by simp only[vW,dp,a,eV,cw,c,j,e,i,ne_eq,not_true,b_,c_,PR.map]))
    refine a8 1 (cZ (by simp only[vW,dp,a,eV,cw,c,j,e,ne_eq,not_true,b_,c_,ais,PR.map]))
   refine a8 1 (cZ (by simp only[vW,dp,a,eV,cw,c,j,ne_eq,not_true,b_,c_]))
  refine a8 1 (cZ (by simp only[vW,dp,a,eV,cw,c,ne_eq,not_true,b_,ais]))
 refine a8 1 (cZ (by simp only[vW,dp,a,ne_eq,not_false_eq_true,c_]))
def Ll(f:Nat)(e:cC)(c:D){types:n_ Ty}(j:ft types c)(a:ir F E):
  b7 C cm kW [.agg (jx f e c (.d .cu) (.d .cu)),kV 0 8 E,.d .cu] [kO 8 E] λo d=>∃p,d=[p]/\gP 0 p=A'/\da o=A'/\∃l,iz (j9 f e types F []) l/\o=.ret (.agg (l.map V.d)):=by
 have i:j9 f e types F []=.mk f [] e [] 0 types [] F:=by simp[j9,cz]
 rw[i];refine cD ?_;refine cA ?_;refine cA ?_;refine ck.loop ?_;refine cA ?_;refine ck.loop ?_;refine ck.loop ?_;rcases E with _|⟨k,h⟩;all_goals
  refine ck.loop ?_;first
   |refine cV.freeze 0 (es:=8) (l:=k::h) rfl (dF _) (by repeat' (first|exact tv|exact λ_=>⟨rfl,by simp⟩|refine aiL ?_ ?_)) λr=>?_
   |skip
  refine cV.drop 1 Z Z Z (cV.now Z ⟨_,Z,Z,Z,_,.mk j .nil ?_,Z⟩);first|exact a.ZE|exact a.psD sm
def GC{fk c:n_ V}{o:cX}{P:dt->cX->Prop}(t:b7 C cm K fk [o] λe f=>∃a,f=[a]/\gP 0 a=A'/\da e=A'/\P e a)(i:Nat)(hσ:nth z i=q' o)(hc:gP 0 o=A')(d:hP 1 fk=A')(p:c=jh (kU [i] (j' z)) fk)(k:∀e a,P e a->g e (z.set i a)):
  b7 C cm K c z g:=by
 refine t.frame [i] Z sm (λj i' h=>?_) d p (λr l h _=>?_)
 ·exact JM
 obtain⟨a,rfl,s,q,w⟩:=h;rw[oc _ _ q];simp only[List.map_cons,List.map_nil,gq _ _ s,merge,aiz];exact k r a w
def Ur{π:Nat->Nat}(c:n_ dg)(a:dg):q' (qQ (c.map dg.n++[a.n]))=q' (eb π (qQ ((c++[a]).map dg.n))):=by
 exact Cz
theorem ym{x:FE}(d:(A.map FE.n).Nodup)(c:A.map FE.n=G.map dg.n)(a:x.n ∉ G.map dg.n):((A++[x]).map FE.n).Nodup:=by
 grind [aiM,ai2]
def BA(a:FE)(c:v b=y):q' (cX.box [V.ms y 9 0 1 1])=q' (eb v (.box [kV b 9 (([]++[a]:n_ FE).map pe)])):=by
 subst c;rfl
def yn(c:FE)(a:n_ FE)(d:FE)(e:v b=y):q' (cX.box [V.ms y 9 0 (j' (a.map pe)+1+1) (j' (a.map pe)+1+1)])=q' (eb v (.box [kV b 9 (((c::a)++[d]).map pe)])):=by
 subst e;simp[kV,eb,jh,iN]
def BB(a:FE):q' (cX.row 9 [(pe a).map V.d])=q' (eb v (kO 9 (([]++[a]:n_ FE).map pe))):=mZ v 9 (pe a)
theorem yo(c:FE)(a:n_ FE)(d:FE):q' (cX.row 9 (aiJ (j' (a.map pe)+1) (aiK 0 (aiD (λe=>aiD V.d e) (pe c::a.map pe)))++[(pe d).map V.d]))=q' (eb v (kO 9 (((c::a)++[d]).map pe))):=by
 grind [l2]
def E2(a:n_ cP)(c:aiV y b=A'):gP b (.box [kV y 9 a])=A':=by
 show(bd b (kV y 9 a)&&A')=A';rw[p1 9 a c];rfl
def GvS(h:Rd)(f:PR Ex)(d:dt)(c:VS):Prop:=∃a e,c=[.box a,e]/\da d=A'/\hP 0 a=A'/\gP 0 e=A'/\Wy h f d a
def adZ{a:cP}(e:J=.ok X b)(d:iz X a)(c:gP 0 Y=A'):cV 2 (.ret (.agg (a.map V.d))) (ee n b::Y::z) (GvS n J):=by
 subst e;exact cV.drop 2 Z (Bt Z (nM 2 _ c)) (sK 2 a) (cV.now Z ⟨_,_,Z,sK 0 a,Z,c,Z,a,d,Z⟩)
def GD(c:J=.bad y H)(a:gP 0 Y=A'):cV 2 (.fJ (dX y H)) (ee n b::Y::z) (GvS n J):=by
 subst c;exact cV.drop 2 Z (Bt Z (nM 2 _ a)) Z (cV.now Z ⟨_,_,Z,Z,Z,a,b,Z,Z⟩)
def BC{a:D}(d:aiV H b=A')(c:bd b W=A'):hP b [.agg (jx y B a (.d .cu) (.d .cu)),kV H 8 E,W]=A':=by
 show(bd b (.agg (jx y B a (.d .cu) (.d .cu)))&&(bd b (kV H 8 E)&&(bd b W&&A')))=A';rw[p1 8 E d,c];rfl
def yp{h d i':Nat}{a:D}{e v':V}(f:v d=i')(c:v'=iN v e): [V.agg (jx h B a (.d .cu) (.d .cu)),kV i' 8 E,v']=jh v [.agg (jx h B a (.d .cu) (.d .cu)),kV d 8 E,e]:=by
 subst f c;show _=[iN v _,iN v (kV d 8 E),iN v e];rw[pt];rfl
def Lm(c:FE)(a:n_ FE)(d:FE):q' (cX.row 9 (aiJ (j' (a.map pe)+1) (aiK 0 (aiD (λe=>aiD V.d e) (pe c::a.map pe)))++[(pe d).map V.d]))=q' (.row 9 (dW A' ((c::a)++[d]))):=by
 rw[List.drop_zero,aiF sm];simp[dW,B2,Function.comp_def]
def yq(a:cG (n.tok b) B=A'):cw n [B] b=.ok () (b+1):=by
 rw[cw,X' a];rfl
abbrev gEl(c:cC)(d:Nat)(a:cP):FE:=⟨c,0,[],[],.cu,.cu,B',[],.ps d 0 8 1 [a]⟩
def PD(a:n_ FE):n_ cP:=a.map pe
def ad0:Nat->Bool:=λa=>aiw a 18
def ahF:Nat->Bool:=λa=>aiw a 10||aiw a 16||aiw a 17||aiw a 21
def PE(ak:n.Wf)(a:cC)(k:Nat)(S:oo dz u n b)(aq:b<j' n.ts)(ab:ir F E)(Q:j' F<=1):
  b7 C cm w8 [.bp 0 0,.agg (jx k [] .cu (.d .cu) (.d .cu)),kV 1 8 E,cv a] [ee n b,kO 8 E] (GvS n (iY u n a k F b)):=by
 have ay:=ak.len;refine cD ?_;refine b7.body ad0 (λ_=>Z) ?_;refine dj n b (n.tok b) a (cn aq) om 0 Z (λw=>?_) (λw=>?_)
 ·refine GC (P:=λR t=>gP 0 t=A'/\∃N,iz (j9 k [] [] F []) N/\R=.ret (.agg (N.map V.d))) (fk:=[.agg (jx k [] .cu (.d .cu) (.d .cu)),kV 0 8 E,.d .cu]) ((Ll k [] .cu .nil ab).mono λR T w=>by have⟨t,s,g,D,m⟩:=w;exact⟨t,s,g,D,g,m⟩) 1 Z (ia 8 E) (BC Z Z) (yp Z Z) (λR t g=>?_);obtain⟨N,h,rfl⟩:=g.2;obtain⟨H,aw,ax,J,p,G,K,L,rfl⟩:=h.eight;exact adZ (by rw[iY,ec,X' w];rfl) h g.1
 refine iV (fx:=[(0,.bp 0 0),(1,cv [44]),(2,cv a),(3,.fn ud [] [.bp 2 0,.bp 7 0,.bp 5 0])]) ?_;refine ck.gone ?_;refine ck.iter (λ_:Nat×n_ dg×n_ FE=>[(0,.bp 0 0),(1,cv [44]),(2,cv a),(3,.fn ud [] [.bp 2 0,.bp 7 0,.bp 5 0])])
  (λf=>[ee n f.1,kO 8 E,.box [.bp 0 0],.box (jx k [] .cu (.d .cu) (.d .cu)),.box jz,.box [kV 8 9 (PD f.2.2)],qQ (f.2.1.map dg.n),.box [.map 6],kO 9 (PD f.2.2)]) (λf=>j' n.ts-f.1)
  (λf=>b<=f.1/\f.1<j' n.ts/\j' f.2.2<=f.1/\l0 f.2.1 f.2.2/\(f.2.2.map FE.n).Nodup/\(∀ai∈f.2.1,j' ai.val<=1)/\∃x,j' n.ts-f.1<=x/\fh (gx u n) n a (j' n.ts) [] b=fh (gx u n) n a x f.2.1 f.1) ?_ (b,[],[]) ⟨aiv _,aq,aiE _,.nil,aiQ,by simp,_,by show (j' n.ts)-b<=j' n.ts;omega,rfl⟩
 rintro⟨d,A,P⟩ ⟨ar,am,av,aj,ah,af,x,ad,ap⟩;have aL:b<=d:=ar;have ao:d<j' n.ts:=am;have I:j' P<=d:=av;have ac:l0 A P:=aj;have au:(P.map FE.n).Nodup:=ah;have aO:∀ai∈A,j' ai.val<=1:=af;have aN:j' n.ts-d<=x:=ad;have l:fh (gx u n) n a (j' n.ts) [] b=fh (gx u n) n a x A d:=ap;clear ar am av aj ah af ad ap;obtain⟨x,rfl⟩:∃aF,x=aF+1:=⟨x-1,om⟩;have aH:=ac.names;have c:iY u n a k F b=(fh (gx u n) n a (x+1) A d).map (j9 k [] [] F):=by rw[iY,ec,W' (by rw[w];decide),l]
 rw[fh]at c l;refine b7.body ahF (λ_=>Z) ?_;refine u9 n ak d ao (A.map dg.n) 0 6 dc Z Z (λj e=>?_) (λj e=>?_) (λj=>?_)
 ·have al:d+1<j' n.ts:=ak.go d _ (cn ao) om;intro aB;refine iZ ak [58] al aB _ 0 Z (λs M=>?_) (λs aA=>?_)
  ·refine cy ?_;refine S.call (d+1+1) om M 0 _ _ ?_ (λan N q1 B h=>?_) (λaJ aM q1 B=>?_)
   ·exact Z
   ·have⟨aG,O⟩:=S.lt _ _ _ om M B;obtain⟨H,aw,ax,J,p,G,K,L,rfl⟩:=h.eight;intro aP;refine db ?_;intro i;refine db ?_;intro aQ;have y:l0 (A++[⟨(n.tok d).text,[],cY,B',[an]⟩]) (P++[gEl (n.tok d).text i [.int .i64 (ait H),.str aw,.str ax,.str J,.int .i64 p,G,K,L]]):=ac.snoc rfl rfl rfl (.mk .nil .nil) (.ps (.cons h .nil));have o:=ym (x:=gEl (n.tok d).text i [.int .i64 (ait H),.str aw,.str ax,.str J,.int .i64 p,G,K,L]) au aH e;have v:∀ai∈A++[(⟨(n.tok d).text,[],cY,B',[an]⟩:dg)],j' ai.val<=1:=by
     exact xU
    have ag:gx u n A d=.ok (A++[⟨(n.tok d).text,[],cY,B',[an]⟩]) q1:=by simp only[gx,eg,j,ne_eq,not_true,b_,e,eV,cw,s,c_,B,PR.map]
    rw[ag]at c l;dsimp only at c l;rcases P with _|⟨U,r⟩;all_goals
     first
      |refine a6 rfl (a6 ⟨aiu rfl,aiu rfl⟩ (a7 rfl ?_))
      |refine a6 rfl (a6 ⟨rfl,rfl,by simp,aiv _,ug (by simp only[aix,aiA]at I⊢;omega) (aiv _) (aiu rfl)⟩ (a7 rfl (a7 (mY _) ?_)))
     refine dj n q1 (n.tok q1) a (cn O) om 0 ?_ (λD=>?_) (λD=>?_)
     ·exact Z
     ·rw[X' D]at c;first
       |refine b7.two (fk:=[.agg (jx k [] .cu (.d .cu) (.d .cu)),kV 1 8 E,.ms 0 9 0 1 1]) (P:=λR _ t=>gP 0 t=A'/\∃N,iz (j9 k [] [] F _) N/\R=.ret (.agg (N.map V.d))) ((ve k [] .cu .nil ab y o v Q 1 rfl dc).mono (λR T w=>by have⟨b,t,W,aa,z,Y,X⟩:=w;exact⟨b,t,W,Y,aa,z,z,X⟩)) 10 1 dc rfl rfl (fU 0 9 _) (ia 8 E) (BC rfl rfl) (yp rfl rfl) λR aE aD w=>?_
       |refine b7.two (fk:=[.agg (jx k [] .cu (.d .cu) (.d .cu)),kV 1 8 E,.ms 0 9 0 (j' (r.map pe)+1+1) (j' (r.map pe)+1+1)]) (P:=λR _ t=>gP 0 t=A'/\∃N,iz (j9 k [] [] F _) N/\R=.ret (.agg (N.map V.d))) ((ve k [] .cu .nil ab y o v Q (j' (r.map pe)+1+1) sm (by simp only[aix,aiA]at I⊢;omega)).mono (λR T w=>by have⟨b,t,W,aa,z,Y,X⟩:=w;exact⟨b,t,W,Y,aa,z,z,X⟩)) 10 1 dc (Lm U r (gEl (n.tok d).text i _)) rfl (fU 0 9 _) (ia 8 E) (BC rfl rfl) (yp rfl rfl) λR aE aD w=>?_
      obtain⟨az,N,h,rfl⟩:=w;obtain⟨H,aw,ax,J,p,G,K,L,rfl⟩:=h.eight;exact adZ (by rw[c];rfl) h az
     rw[W' (by rw[D];decide)]at c l;intro aC;refine iZ ak [44] O aC _ 0 ?_ (λm ae=>?_) (λm aA=>?_)
     ·exact Z
     ·rw[yq m]at l;refine⟨(q1+1,_,_),⟨by show b<=q1+1;omega,ae,by simp only[aiy,aix,aiB]at I⊢;omega,y,o,v,x,by show (j' n.ts)-(q1+1)<=x;omega,l⟩,by show (j' n.ts)-(q1+1)<j' n.ts-d;omega,.pick 8 [0,1,2,3,4,5,6,7,10] ⟨Z,Z,Z,Z,tv⟩ Z Z Z Z Z dc ⟨Z,Z,M2 _ _ _,iE _ _ _,Z,Z,Z,Z,Z,Z,by first|exact BA (gEl (n.tok d).text i _) rfl|exact yn U r (gEl (n.tok d).text i _) rfl,E2 _ Z,Ur A ⟨(n.tok d).text,[],cY,B',[an]⟩,nM _ _ (ko _),Z,Z,by first|exact BB (gEl (n.tok d).text i _)|exact yo U r (gEl (n.tok d).text i _),iE _ _ _,tv⟩,Z,Z⟩
     exact GD (by rw[c];simp only[cw,m,b_,ais,PR.map]) (ia 8 E)
   exact GD (by rw[c];simp only[gx,eg,j,ne_eq,not_true,b_,e,eV,cw,s,c_,B,PR.map]) (ia 8 E)
  exact GD (by rw[c];simp only[gx,eg,j,ne_eq,not_true,b_,e,eV,cw,s,ais,PR.map]) (ia 8 E)
 ·exact GD (by rw[c];simp only[gx,eg,j,ne_eq,not_true,b_,e,c_,PR.map]) (ia 8 E)
 exact GD (by rw[c];simp only[gx,eg,j,ne_eq,not_false_eq_true,c_,PR.map]) (ia 8 E)
def tyS(f:Rd)(e:PR Ty)(d:dt)(c:VS):Prop:=∃a,c=[.box a]/\da d=A'/\hP 0 a=A'/\tyK f e d a
def ad1:ml 1 (ee n b::z) 1=A':=by
 show(gP 1 (ee n b)&&ml 1 z 0)=A';rw[ml];rfl
def GF{f:Ty}{d:cP}{e:PR Ty}(a:fF f d)(c:W=.agg (d.map V.d))(h:e=.ok f b):cV 1 (.ret W) (ee n b::z) (tyS n e):=by
 obtain⟨k,l,j,o,i,rfl⟩:=a.dL;subst h c;exact cV.drop 1 Z ad1 Z (cV.now Z ⟨_,Z,Z,Z,Z,_,a,Z⟩)
def pu{a:PR Ty}(c:a=.bad y H):cV 1 (.fJ (dX y H)) (ee n b::z) (tyS n a):=by
 subst c;exact cV.drop 1 Z ad1 Z (cV.now Z ⟨_,Z,Z,Z,b,Z,Z⟩)
def WD(j:Rd)(t:j.Wf)(N l:Nat)(K:l<j' j.ts)(r:iW (iM j N) j (l+1)):
  b7 C cm Bb [.bp 0 0] [ee j l] (tyS j (iM j (N+1) l)):=by
 have a:iM j (N+1) l=vf (iM j N) j (j.tok l).kind (j.tok l).text (j.tok l).off (l+1):=by rw[iM]
 have D:=cn K;generalize j.tok l=H at a D;have⟨i,c,e⟩:=H;dsimp only at a;have J:=t.len;have d:i≠0->l+1<j' j.ts:=λM=>t.go l _ D M;refine cB agh (λ_=>Z) ?_;refine j8 j l _ D om 0 Z ?_;refine db ?_;refine cA ?_;iterate 5 refine cp u' rfl ?_
 have v:i=5∨i=6∨i=2∨i=1∨(i≠5/\i≠6/\i≠2/\i≠1):=om;rcases v with rfl|rfl|rfl|rfl|⟨n,z,E,B⟩
 ·have d:=d dc;rw[show gZ ⟨5,c,e⟩ l=l+1 from rfl];rw[vf,X' rfl]at a;rcases rQ c with⟨u,h⟩|⟨F,k,u,h⟩<;>rw[u]at a<;>refine cp _ h ?_<;>refine db ?_
  ·dsimp only at a;by_cases P:c=[108,105,115,116]
   ·rw[X' P]at a;repeat refine b9 (a_ P) ?_
    refine qR j t (iM j N) (l+1) d r 0 Z (λX y w f o=>?_) (λe g w f=>?_)
    ·obtain⟨k,U,T,S,L,rfl⟩:=o.dL;intro Q;exact GF (.mk (.ps (.cons o .nil) sm) .nil) Z (by rw[a,f];rfl)
    exact pu (by rw[a,f];rfl)
   rw[W' P]at a;repeat refine a7 (Z' P) ?_
   by_cases s:c=[102,110]
   ·rw[X' s]at a;repeat refine b9 (a_ s) ?_
    intro Q;refine kX j t [[40]] dc (l+1) d _ _ 0 Z ?_;cases p:cw j [[40]] (l+1)with
    |bad e g=>
     intro w;exact pu (by rw[a,p])
    |ok _ q1=>
     have q:=eo t _ _ _ d p;have I:l+1<=q1:=by rw[dI _ _ _ p];omega
     rw[p]at a;dsimp only at a;refine xh j t (iM j N) [44] [41] A' q1 q (r.up I) 0 Z (λG y q2 f o=>?_) (λe g w f=>pu (by rw[a,f]));have⟨O,A⟩:=rP t (r.up I).lt q f;rw[f]at a;dsimp only at a;refine r.call q2 om A 0 _ _ Z (λX d2 q3 m b=>?_) (λe g q3 m=>pu (by rw[a,m];rfl));obtain⟨k,U,T,S,L,rfl⟩:=b.dL;intro W;exact GF (.mk (.ps (.cons b .nil) sm) o) Z (by rw[a,m];rfl)
   rw[W' s]at a;repeat refine a7 (Z' s) ?_
   exact jl _ e 3 (pu a)
  exact GF (.mk .nil .nil) Z a
 ·have d:=d dc;rw[show gZ ⟨6,c,e⟩ l=l+1 from rfl];rw[vf,W' dc,X' rfl]at a;rcases rQ c with⟨_,h⟩|⟨F,k,_,h⟩<;>refine cp _ h ?_<;>refine db ?_;all_goals
   by_cases V:c=[123]
   ·rw[X' V]at a;repeat refine b9 (a_ V) ?_
    exact xh j t (iM j N) [44] [125] B' (l+1) d r 0 Z (λG y w f o=>GF (.mk .nil o) Z (by rw[a,f];rfl)) λe g w f=>pu (by rw[a,f];rfl)
   rw[W' V]at a;repeat refine a7 (Z' V) ?_
   by_cases R:c=[60]
   ·rw[X' R]at a;repeat refine b9 (a_ R) ?_
    exact xh j t (iM j N) [124] [62] B' (l+1) d r 0 Z (λG y w f o=>GF (.mk .nil o) Z (by rw[a,f];rfl)) λe g w f=>pu (by rw[a,f];rfl)
   rw[W' R]at a;repeat refine a7 (Z' R) ?_
   exact jl _ e 3 (pu a)
 ·have d:=d dc;rw[show gZ ⟨2,c,e⟩ l=l+1 from rfl];rw[vf,W' dc,W' dc,X' rfl]at a;rcases rQ c with⟨_,h⟩|⟨F,k,_,h⟩<;>refine cp _ h ?_<;>refine db ?_;all_goals
   refine yh j t (iM j N) (l+1) d r 0 Z (λG y w f o=>?_) (λe g w f=>pu (by rw[a,f];rfl));refine db ?_;exact GF (.mk o .nil) Z (by rw[a,f];rfl)
 ·have d:=d dc;rw[show gZ ⟨1,c,e⟩ l=l+1 from rfl];rw[vf,W' dc,W' dc,W' dc,X' rfl]at a;rcases rQ c with⟨_,h⟩|⟨F,k,_,h⟩<;>refine cp _ h ?_<;>refine db ?_;all_goals
   intro Q;refine kX j t [[58,58]] dc (l+1) d _ _ 0 Z ?_;cases p:cw j [[58,58]] (l+1)with
   |bad e g=>
    intro w;exact pu (by rw[a,p])
   |ok _ q1=>
    have q:=eo t _ _ _ d p;have I:l+1<=q1:=by rw[dI _ _ _ p];omega
    rw[p]at a;dsimp only at a;refine u7 j q1 2 (j.tok q1) (cn q) om 0 Z (λx=>?_) (λx=>pu (by rw[a,X' x]));rw[W' (λM=>M x)]at a;rw[show gZ (j.tok q1) q1=q1+1 from W' om];refine db ?_;refine yh j t (iM j N) (q1+1) (t.go q1 _ (cn q) om) (r.up om) 0 Z (λG y w f o=>?_) (λe g w f=>pu (by rw[a,f];rfl));refine db ?_;exact GF (.mk o .nil) Z (by rw[a,f];rfl)
 rw[vf,W' n,W' z,W' E,W' B]at a;rcases rQ c with⟨_,h⟩|⟨F,k,_,h⟩<;>refine cp _ h ?_<;>refine db ?_;all_goals
  repeat first|refine a7 (M7 n) ?_|refine a7 (M7 z) ?_|refine a7 (M7 E) ?_|refine a7 (M7 B) ?_
  exact jl _ e 3 (pu a)
def fR{c a:Type}{f:c->a}{e:PR c}{i:a}(h:e.map f=.ok i b):∃d,e=.ok d b/\f d=i:=by
 cases e with
 |ok d k=>cases h;exact⟨d,rfl,rfl⟩
 |bad j l=>cases h
def Us(i:n.Wf){s p f:Nat}{o:Ty}(e:∀d o f,p<=d->d<j' n.ts->m d=.ok o f->d<f/\f<j' n.ts) 
  (hp:b≠0->p<j' n.ts) (h:vf m n b B s p=.ok o f):p<=f/\f<j' n.ts:=by
 unfold vf at h;split at h
 ·have hp:=hp om;split at h
  ·exact q0
  split at h
  ·have⟨q,a,_⟩:=fR h;exact lC i e hp a
  split at h
  ·cases c:cw n [[40]] p with
   |bad D I=>rw[c]at h;cases h
   |ok N q1=>
    rw[c]at h;dsimp only at h;have C:=dI _ _ _ c;have k:=eo i _ _ _ hp c;cases l:ek m n [44] [41] A' q1 with
    |bad D I=>rw[l]at h;cases h
    |ok R q2=>
     rw[l]at h;dsimp only at h;have⟨x,j⟩:=rP i (λd o f t=>e d o f om) k l;have⟨q,a,_⟩:=fR h;have⟨P,w⟩:=e q2 q f om j a;exact⟨om,w⟩
  cases h
 split at h
 ·have hp:=hp om;split at h
  ·have⟨q,a,_⟩:=fR h;exact rP i e hp a
  split at h
  ·have⟨q,a,_⟩:=fR h;exact rP i e hp a
  cases h
 split at h
 ·have⟨q,a,_⟩:=fR h;exact Bx i e (hp om) a
 split at h
 ·have hp:=hp om;cases c:cw n [[58,58]] p with
  |bad D I=>rw[c]at h;cases h
  |ok N q1=>
   rw[c]at h;dsimp only at h;have C:=dI _ _ _ c;have k:=eo i _ _ _ hp c;split at h
   ·cases h
   rename_i r;have r:(n.tok q1).kind=2:=by simpa using r
   have⟨q,a,_⟩:=fR h;have⟨x,j⟩:=Bx i (λd o f t=>e d o f om) (i.go q1 _ (cn k) om) a;exact⟨om,j⟩
 cases h
def Ut(p:n.Wf):∀(e a:Nat) (d:Ty) (c:Nat),a<j' n.ts->iM n e a=.ok d c->a<c/\c<j' n.ts:=by
 intro e;induction e with
 |zero=>intro a d c _ f;cases f
 |succ e j=>
  intro a d c h f;rw[iM]at f;have⟨r,q⟩:=Us p (p:=a+1) (λl d c _ o k=>j l d c o k) (λi=>p.go a _ (cn h) i) f;exact⟨om,q⟩
def GG(s:n.Wf):∀(f c:Nat),j' n.ts-c<=f->iW (iM n f) n c:=by
 intro f;induction f with
 |zero=>intro c h;exact⟨λi t q k a=>om,λi k a=>om⟩
 |succ f o=>
  intro c h;refine⟨λi t q _ a p=>Ut s _ i t q a p,λi k a w x C j k1 k2=>?_⟩;refine b7.one (fk:=[.bp 0 0]) (P:=tyK n (iM n (f+1) i)) (WD n s f i a (o (i+1) om)) w j Z Z Z (λD r h=>?_);unfold tyK at h;exact tq
def ahG:Nat->Bool:=λa=>aiw a 6||aiw a 12||aiw a 16||aiw a 22||aiw a 26||aiw a 32||aiw a 33
def SB(z:n.Wf)(P:iW m n b)(d:oo dz u n b)(V:b<j' n.ts):
  b7 C cm ly [.bp 0 0] [ee n b] (Ra n (ol m u n b)):=by
 have G:=z.len;refine cB ahG (λ_=>Z) ?_;refine qR n z m b V P 0 Z (λM U I a l=>?_) (λi t I a=>?_)
 ·have⟨S,s⟩:=lC z (λH M I F c h=>P.lt H M I F c h) V a;obtain⟨Q,ab,tn,T,X,rfl⟩:=l.dL;intro ag;refine cy ?_;refine d.call I om s 0 _ _ ?_ (λad ae q1 e N=>?_) (λi t q1 e=>?_)
  ·exact Z
  ·have⟨J,x⟩:=d.lt _ _ _ om s e;obtain⟨k,L,K,g,p,q,v,R,rfl⟩:=N.eight;intro Y;refine db ?_;intro B;refine iZ z [116,104,101,110] x B _ 0 Z (λc r=>?_) (λc I=>?_)
   ·refine cy ?_;refine d.call (q1+1) om r 0 _ _ ?_ (λaf d2 q2 f j=>?_) (λi t q2 f=>?_)
    ·exact Z
    ·have⟨E,w⟩:=d.lt _ _ _ om r f;obtain⟨k,L,K,g,p,q,v,R,rfl⟩:=j.eight;intro aa;refine db ?_;intro A;refine iZ z [101,108,115,101] w A _ 0 Z (λh y=>?_) (λh I=>?_)
     ·refine cy ?_;refine d.call (q2+1) om y 0 _ _ ?_ (λac d3 q3 D o=>?_) (λi t q3 D=>?_)
      ·exact Z
      ·obtain⟨k,L,K,g,p,q,v,R,rfl⟩:=o.eight;intro O;refine db ?_;intro W;refine db ?_;refine a8 1 (eL (by simp only[ol,eV,cw,PR.map,c_,a,e,f,D,c,h]) (.mk (.ps (.cons l .nil) sm) .nil (.ps (.cons N (.cons j (.cons o .nil))))))
      refine a8 1 (cZ (by simp only[ol,eV,cw,PR.map,c_,a,e,f,D,c,h]))
     refine a8 1 (cZ (by simp only[ol,eV,cw,PR.map,c_,b_,ais,a,e,f,c,h]))
    refine a8 1 (cZ (by simp only[ol,eV,cw,PR.map,c_,a,e,f,c]))
   refine a8 1 (cZ (by simp only[ol,eV,cw,PR.map,c_,b_,ais,a,e,c]))
  refine a8 1 (cZ (by simp only[ol,a,e]))
 refine a8 1 (cZ (by simp only[ol,a]))
def ahH:Nat->Bool:=λa=>aiw a 6||aiw a 12||aiw a 18||aiw a 28||aiw a 38||aiw a 24||aiw a 34||aiw a 44||aiw a 45
def SC(r:n.Wf)(B:iW m n b)(i:oo dz u n b)(G:b<j' n.ts):
  b7 C cm s3 [.bp 0 0] [ee n b] (Ra n (lE m u n b)):=by
 have Q:=r.len;refine cB ahH (λ_=>Z) ?_;refine qR n r m b G B 0 Z (λaa ag l c t=>?_) (λp V l c=>?_)
 ·have⟨ae,R⟩:=lC r (λU aa l d f h=>B.lt U aa l d f h) G c;obtain⟨ad,aj,tn,af,ai,rfl⟩:=t.dL;intro ap;refine lZ n l _ (cn R) om 0 ?_ (λe=>?_) (λe=>?_)
  ·exact Z
  ·have A:l+1<j' n.ts:=r.go l _ (cn R) om;intro L;refine iZ r [44] A L _ 0 Z (λd N=>?_) (λd l=>?_)
   ·refine lZ n (l+1+1) _ (cn N) om 0 ?_ (λa=>?_) (λa=>?_)
    ·exact Z
    ·have K:l+1+1+1<j' n.ts:=r.go (l+1+1) _ (cn N) om;intro S;refine iZ r [105,110] K S _ 0 Z (λf P=>?_) (λf l=>?_)
     ·refine cy ?_;refine i.call (l+1+1+1+1) om P 0 _ _ ?_ (λam an q1 j z=>?_) (λp V q1 j=>?_)
      ·exact Z
      ·have⟨W,v⟩:=i.lt _ _ _ om P j;obtain⟨k,Y,X,H,x,D,J,F,rfl⟩:=z.eight;intro ac;refine db ?_;intro T;refine iZ r [102,114,111,109] v T _ 0 Z (λh I=>?_) (λh l=>?_)
       ·refine cy ?_;refine i.call (q1+1) om I 0 _ _ ?_ (λao d2 q2 o s=>?_) (λp V q2 o=>?_)
        ·exact Z
        ·have⟨O,g⟩:=i.lt _ _ _ om I o;obtain⟨k,Y,X,H,x,D,J,F,rfl⟩:=s.eight;intro ab;refine db ?_;intro M;refine iZ r [61,62] g M _ 0 Z (λq E=>?_) (λq l=>?_)
         ·refine cy ?_;refine i.call (q2+1) om E 0 _ _ ?_ (λal d3 q3 y w=>?_) (λp V q3 y=>?_)
          ·exact Z
          ·obtain⟨k,Y,X,H,x,D,J,F,rfl⟩:=w.eight;intro ah;refine db ?_;intro ak;refine db ?_;refine a8 1 (eL (by simp only[lE,dp,eV,cw,PR.map,ne_eq,not_true,b_,c_,c,j,o,y,e,a,d,f,h,q]) (.mk (.ps (.cons t .nil) sm) .nil (.ps (.cons z (.cons s (.cons w .nil))))))
          refine a8 1 (cZ (by simp only[lE,dp,eV,cw,PR.map,ne_eq,not_true,b_,c_,c,j,o,y,e,a,d,f,h,q]))
         refine a8 1 (cZ (by simp only[lE,dp,eV,cw,PR.map,ne_eq,not_true,b_,c_,ais,c,j,o,e,a,d,f,h,q]))
        refine a8 1 (cZ (by simp only[lE,dp,eV,cw,PR.map,ne_eq,not_true,b_,c_,c,j,o,e,a,d,f,h]))
       refine a8 1 (cZ (by simp only[lE,dp,eV,cw,PR.map,ne_eq,not_true,b_,c_,ais,c,j,e,a,d,f,h]))
      refine a8 1 (cZ (by simp only[lE,dp,eV,cw,PR.map,ne_eq,not_true,b_,c_,c,j,e,a,d,f]))
     refine a8 1 (cZ (by simp only[lE,dp,eV,cw,PR.map,ne_eq,not_true,b_,c_,ais,c,e,a,d,f]))
    refine a8 1 (cZ (by simp only[lE,dp,cw,ne_eq,not_true,not_false_eq_true,b_,c_,c,e,a,d]))
   refine a8 1 (cZ (by simp only[lE,dp,cw,ne_eq,not_true,b_,ais,c,e,d]))
  refine a8 1 (cZ (by simp only[lE,dp,ne_eq,not_false_eq_true,c_,c,e]))
 refine a8 1 (cZ (by simp only[lE,c]))
def PF(q:n.Wf)(t:cC)(j:iW m n b)(e:b<j' n.ts):
  b7 C cm w9 [.bp 0 0,cv t] [ee n b] (Ra n (iA m n t b)):=by
 have s:=q.len;refine cD ?_;refine dj n b _ [58,58] (cn e) om 0 Z (λa=>?_) (λa=>?_)
 ·have f:=q.step e a;refine lZ n (b+1) _ (cn f) om 0 Z (λd=>?_) (λd=>?_)
  ·have h:b+1+1<j' n.ts:=q.go (b+1) _ (cn f) om;refine sJ n (b+1+1) _ [91] (cn h) 0 Z ?_;apply aZ<;>intro c
   ·refine yh n q m (b+1+1) h ⟨λk D p x=>j.lt k D p om,λk x=>j.call k om⟩ 0 Z (λI w p l i=>?_) (λo r p l=>?_)
    ·refine a8 1 (eL (by simp only[iA,dp,PR.map,a,c,d,l,ne_eq,not_true,b_,c_]) (.mk i .nil .nil))
    refine a8 1 (cZ (by simp only[iA,dp,PR.map,a,c,d,l,ne_eq,not_true,b_,c_]))
   refine a8 1 (eL (by simp only[iA,dp,PR.map,a,c,d,ne_eq,not_true,b_,c_,ais]) (.mk .nil .nil .nil))
  refine a8 1 (cZ (by simp only[iA,dp,PR.map,a,d,ne_eq,not_false_eq_true,c_]))
 refine sJ n b _ [91] (cn e) 0 Z ?_;apply aZ<;>intro c
 ·refine yh n q m b e j 0 Z (λI w p l i=>?_) (λo r p l=>?_)
  ·refine a8 1 (eL (by simp only[iA,PR.map,a,c,l,b_,c_,ais]) (.mk i .nil .nil))
  refine a8 1 (cZ (by simp only[iA,PR.map,a,c,l,b_,c_,ais]))
 refine a8 1 (eL (by simp only[iA,a,c,b_,ais]) (.mk .nil .nil .nil))
def dY{c a:Type}{f:c->a}{e:PR c}{i:a}(h:e.map f=.ok i b):∃d,e=.ok d b/\f d=i:=by
 cases e with
 |ok d k=>cases h;exact⟨d,rfl,rfl⟩
 |bad j l=>cases h
def Uu(w:n.Wf)(j:∀p i q,b<=p->p<j' n.ts->mv m u n p=.ok i q->p<q/\q<j' n.ts):∀(k p:Nat) (i:Ex) (q:Nat),b<=p->p<j' n.ts->oh m u n k p=.ok i q->p<q/\q<j' n.ts:=by
 intro k;induction k with
 |zero=>intro p i q _ _ h;cases h
 |succ k ih=>
  intro p i q o h2 h;rw[oh]at h;split at h
  ·exact Kh
  split at h
  ·cases h
  rename_i t q1 l;have⟨c,d⟩:=j p t q1 o h2 l;split at h
  ·cases h;exact⟨c,d⟩
  rename_i s r;have⟨D,C,_,f,_⟩:=ui r;have⟨a,e,_⟩:=dY h;have⟨x,d2⟩:=j (q1+1) a q om (w.step d f) e;exact⟨om,d2⟩
def ahI:Nat->Bool:=λa=>aiw a 10||aiw a 25
def agq(v:n.Wf)(a:oo Bl (mv m u n) n b):∀(P f I:Nat),b<=f->j' n.ts-f<=P->j' n.ts-f<=I->oo Bj (oh m u n I) n f:=by
 have E:=v.len;intro P;induction P with
 |zero=>intro f I B A G;exact⟨λx y o L g=>om,λx L g=>om⟩
 |succ P H=>
  intro f I B A G;refine oo.of (λx y o L g=>Uu v a.lt I x y o om g) (λx J N=>?_);obtain⟨I,rfl⟩:∃F,I=F+1:=⟨I-1,om⟩;refine cB ahI (λ_=>Z) ?_;refine dj n x (n.tok x) [110,111,116] (cn N) om 0 Z (λd=>?_) (λd=>?_)
  ·have l:=v.step N d;refine(H (x+1) I om om om).call (x+1) (aiv _) l 0 _ _ Z (λy O o t i=>?_) (λr C o t=>?_)
   ·obtain⟨k,z,P,R,q,s,V,D,rfl⟩:=i.eight;intro g;refine a8 1 (eL (by rw[oh,X' d,t];rfl) (.mk .nil .nil (.ps (.cons i .nil))))
   refine a8 1 (cZ (by rw[oh,X' d,t];rfl))
  refine a.call x om N 0 _ _ Z (λy O o t i=>?_) (λr C o t=>?_)
  ·have⟨K,l⟩:=a.lt x y o om N t;obtain⟨k,z,P,R,q,s,V,D,rfl⟩:=i.eight;refine ck.loop ?_;refine bZ Z ?_;refine a6 dc ?_;refine dj n o (n.tok o) [61,61] (cn l) om 0 Z (λh=>?_) (λh=>?_)
   ·have j:=v.step l h;refine cy ?_;refine a.call (o+1) om j 0 _ _ ?_ (λM d2 q2 e c=>?_) (λr C q2 e=>?_)
    ·exact Z
    ·obtain⟨k,z,P,R,q,s,V,D,rfl⟩:=c.eight;intro g;refine cy ?_;refine a8 1 (eL (by rw[oh,W' (by rw[d];decide),t];simp only[o5,aiN,h,e,PR.map]) (.mk .nil .nil (.ps (.cons i (.cons c .nil)))))
    refine a8 1 (cZ (by rw[oh,W' (by rw[d];decide),t];simp only[o5,aiN,h,e,PR.map]))
   refine ck.loop ?_;refine bZ Z ?_;refine a6 dc ?_;refine dj n o (n.tok o) [61,61,61] (cn l) om 0 Z (λp=>?_) (λp=>?_)
   ·have j:=v.step l p;refine cy ?_;refine a.call (o+1) om j 0 _ _ ?_ (λM d2 q2 e c=>?_) (λr C q2 e=>?_)
    ·exact Z
    ·obtain⟨k,z,P,R,q,s,V,D,rfl⟩:=c.eight;intro g;refine cy ?_;refine a8 1 (eL (by rw[oh,W' (by rw[d];decide),t];simp only[o5,aiN,h,p,e,PR.map]) (.mk .nil .nil (.ps (.cons i (.cons c .nil)))))
    refine a8 1 (cZ (by rw[oh,W' (by rw[d];decide),t];simp only[o5,aiN,h,p,e,PR.map]))
   refine ck.loop ?_;refine bZ Z ?_;refine a6 dc ?_;refine dj n o (n.tok o) [60] (cn l) om 0 Z (λw=>?_) (λw=>?_)
   ·have j:=v.step l w;refine cy ?_;refine a.call (o+1) om j 0 _ _ ?_ (λM d2 q2 e c=>?_) (λr C q2 e=>?_)
    ·exact Z
    ·obtain⟨k,z,P,R,q,s,V,D,rfl⟩:=c.eight;intro g;refine cy ?_;refine a8 1 (eL (by rw[oh,W' (by rw[d];decide),t];simp only[o5,aiN,h,p,w,e,PR.map]) (.mk .nil .nil (.ps (.cons i (.cons c .nil)))))
    refine a8 1 (cZ (by rw[oh,W' (by rw[d];decide),t];simp only[o5,aiN,h,p,w,e,PR.map]))
   refine ck.loop ?_;refine a8 1 (eL (by rw[oh,W' (by rw[d];decide),t];simp only[o5,aiN,h,p,w]) i)
  refine a8 1 (cZ (by rw[oh,W' (by rw[d];decide),t]))
def ZH(s:n.Wf)(f:n.Ng)(a c:Nat)(l:c<j' n.ts)(o:a=9223372036854775807∨a=9223372036854775808)(j:Nat)(i:nth z j=q' (ee n c))(k1:∀p d q,qS a n c=.ok p q->iz p d->g (.ret (.agg (d.map V.d))) (z.set j (ee n q))) 
  (k2:∀off e q,qS a n c=.bad off e->g (.fJ (dX off e)) (z.set j (ee n q))):b7 C cm vH [.bp j 0,.d (.int .u64 (ait a))] z g:=by
 refine b7.one (fk:=[.bp 0 0,.d (.int .u64 (ait a))]) (P:=Wy n (qS a n c)) (WB s f a c l o) j i Z Z Z (λw r h=>?_);unfold Wy at h;exact tq
theorem Uv(e:n.Wf)(c:y<j' n.ts)(d:qS b n y=.ok X H):y<H/\H<j' n.ts:=by
 rw[qS]at d;split at d
 ·cases d
 rename_i a;have a:(n.tok y).kind=3:=by simpa using a
 have:=e.go y _ (cn c) om;all_goals grind
def Uw(w:n.Wf)(j:∀p f q,b<=p->p<j' n.ts->gK m u n p=.ok f q->p<q/\q<j' n.ts):∀(i p:Nat) (f:Ex) (q:Nat),b<=p->p<j' n.ts->ql m u n i p=.ok f q->p<q/\q<j' n.ts:=by
 intro i;induction i with
 |zero=>intro p f q _ _ h;cases h
 |succ i ih=>
  intro p f q k h2 h;rw[ql]at h;split at h
  ·exact Kh
  split at h
  ·rename_i hn;have:=w.step h2 hn;have⟨c,d⟩:=Uv w this h;exact⟨om,d⟩
  exact j p f q k h2 h
def ahJ:Nat->Bool:=λa=>aiw a 8
def agr(N:n.Wf)(t:n.Ng)(q:oo uc (gK m u n) n b):∀(s a j:Nat),b<=a->j' n.ts-a<=s->j' n.ts-a<=j->oo w7 (ql m u n j) n a:=by
 have g:=N.len;intro s;induction s with
 |zero=>intro a j V R y;exact⟨λf C p B P=>om,λf B P=>om⟩
 |succ s z=>
  intro a j V R y;refine oo.of (λf C p B P=>Uw N q.lt j f C p om P) (λf A h=>?_);obtain⟨j,rfl⟩:∃v,j=v+1:=⟨j-1,om⟩;refine cB ahJ (λ_=>Z) ?_;refine dj n f (n.tok f) [108,101,110,103,116,104] (cn h) om 0 Z (λd=>?_) (λd=>?_)
  ·have r:=N.step h d;refine(z (f+1) j om om om).call (f+1) (aiv _) r 0 _ _ Z (λC F p i c=>?_) (λl w p i=>?_)
   ·obtain⟨E,G,s,D,k,o,I,x,rfl⟩:=c.eight;intro P;refine a8 1 (eL (by rw[ql,X' d,i];rfl) (.mk .nil .nil (.ps (.cons c .nil))))
   refine a8 1 (cZ (by rw[ql,X' d,i];rfl))
  refine dj n f (n.tok f) [45] (cn h) om 0 Z (λe=>?_) (λe=>?_)
  ·have r:=N.step h e;refine ZH N t 9223372036854775808 (f+1) r (.inr Z) 0 Z (λC F p i c=>?_) (λl w p i=>?_)
   ·obtain⟨E,G,s,D,k,o,I,x,rfl⟩:=c.eight;refine a8 1 (eL (by rw[ql,W' (by rw[d];decide),X' e,i]) c)
   refine a8 1 (cZ (by rw[ql,W' (by rw[d];decide),X' e,i]))
  refine q.call f om h 0 _ _ Z (λC F p i c=>?_) (λl w p i=>?_)
  ·obtain⟨E,G,s,D,k,o,I,x,rfl⟩:=c.eight;refine a8 1 (eL (by rw[ql,W' (by rw[d];decide),W' (by rw[e];decide),i]) c)
  refine a8 1 (cZ (by rw[ql,W' (by rw[d];decide),W' (by rw[e];decide),i]))
def GH(O:n.Wf)(a:cC)(f:Nat){kids:n_ Ex}{oe:n_ cP}(w:oo dz u n b)(E:b<j' n.ts)(A:ir kids oe)(q:j' kids<=1)(o l:Nat)(p:o≠l)(x:nth z o=q' (ee n b))(F:nth z l=q' (kO 8 oe)) 
  (N:∀H I h k,iY u n a f kids b=.ok H h->iz H I->gP 0 k=A'->g (.ret (.agg (I.map V.d))) ((z.set o (ee n h)).set l k)) (G:∀d j h k,iY u n a f kids b=.bad d j->gP 0 k=A'->g (.fJ (dX d j)) ((z.set o (ee n h)).set l k)):
  b7 C cm w8 [.bp o 0,.agg (jx f [] .cu (.d .cu) (.d .cu)),kV l 8 oe,cv a] z g:=by
 refine b7.two (fk:=[.bp 0 0,.agg (jx f [] .cu (.d .cu) (.d .cu)),kV 1 8 oe,cv a]) (P:=λR r e=>gP 0 e=A'/\∃c,r=.box c/\Wy n (iY u n a f kids b) R c)
  ((PE O a f w E A q).mono λR J i=>by
   have⟨c,k,j,B,m,t,y⟩:=i;exact⟨_,k,j,B,m,t,t,c,Z,y⟩) o l p x F Z (ia 8 oe) ?_ ?_ λR r e i=>?_
 ·show(bd 2 (.bp 0 0)&&hP 2 [.agg (jx f [] .cu (.d .cu) (.d .cu)),kV 1 8 oe,cv a])=A';rw[BC rfl rfl];rfl
 ·show _=iN _ (.bp 0 0)::jh _ [.agg (jx f [] .cu (.d .cu) (.d .cu)),kV 1 8 oe,cv a];rw[<-yp (i':=l) (v':=cv a) rfl rfl];rfl
 obtain⟨s,c,rfl,i⟩:=i;unfold Wy at i;split at i
 ·rename_i L h j;obtain⟨rfl,I,P,rfl⟩:=i;exact N L I h e j P s
 rename_i d v j;obtain⟨h,rfl,rfl⟩:=i;exact G d v h e j s
theorem ZI{e:Type}(s:n.Wf){step:e->Nat->PR e}(q:∀i a c h,b<=a->a<j' n.ts->step i a=.ok c h->a<h/\h<j' n.ts):∀(j:Nat) (i:e) (a:Nat) (c:e) (h:Nat),b<=a->a<j' n.ts->fh step n B j i a=.ok c h->a<h/\h<j' n.ts:=by
 intro j;induction j with
 |zero=>intro i a c h _ _ d;cases d
 |succ j C=>
  intro i a c h o k d;rw[fh]at d;split at d
  ·cases d
  rename_i w q1 l;have⟨N,r⟩:=q i a w q1 o k l;split at d
  ·rename_i p;have:=s.step r p;cases d;exact⟨om,this⟩
  cases f:cw n [[44]] q1 with
  |bad D P=>rw[f]at d;cases d
  |ok I q2=>
   rw[f]at d;dsimp only at d;have x:=dI _ _ _ f;have t:=eo s _ _ _ r f
   grind
def BD{c:Type}(k:n.Wf){step:c->Nat->PR c}{lo:Nat}(j:∀i b a y,lo<=b->b<j' n.ts->step i b=.ok a y->b<y/\y<j' n.ts){i a:c}(h:lo<=b)(d:b<j' n.ts)(e:ec step n B i b=.ok a y):b<y/\y<j' n.ts:=by
 rw[ec]at e;split at e
 ·rename_i f;have:=k.step d f;cases e;exact⟨om,this⟩
 exact ZI k j _ _ _ _ _ h d e
theorem Ux(f:n.Wf)(i:∀y X H,b<=y->y<j' n.ts->u y=.ok X H->y<H/\H<j' n.ts){s:cC}(j:b<=y)(d:y<j' n.ts)(c:eV u n [] y=.ok X H∨eV u n s y=.ok X H):y<H/\H<j' n.ts:=by
 have e:∀s,eV u n s y=.ok X H->y<H/\H<j' n.ts:=by
  intro s c;rw[eV]at c;cases a:cw n [s] y with
  |bad l p=>rw[a]at c;cases c
  |ok o q2=>
   rw[a]at c;have h:=dI _ _ _ a;have k:=eo f _ _ _ d a
   grind
 all_goals grind
def q9(w:n.Wf){p c:Nat}{s:cC}(h2:p<j' n.ts)(h:eg n G p=.ok s c):p<c/\c<j' n.ts:=by
 rw[eg]at h;split at h
 ·cases h
 rename_i a;have a:(n.tok p).kind=1:=by simpa using a
 split at h
 ·cases h
 exact Cs
def gy(w:n.Wf){p c:Nat}{s:cC}(h2:p<j' n.ts)(h:dp n p=.ok s c):p<c/\c<j' n.ts:=by
 rw[dp]at h;split at h
 ·cases h
 rename_i a;have a:(n.tok p).kind=1:=by simpa using a
 exact Cs
def yr(j:n.Wf)(h:∀H X a,b<=H->H<j' n.ts->u H=.ok X a->H<a/\a<j' n.ts){a:Nat}(e:b<=H)(c:H<j' n.ts)(d:iY u n B y F H=.ok X a):H<a/\a<j' n.ts:=by
 have⟨t,i,_⟩:=dY d;refine BD j (lo:=b) (λp H k a e c d=>?_) e c i;rw[gx]at d;split at d
 ·cases d
 rename_i s q1 f;have⟨r,l⟩:=q9 j c f;have⟨q,i,_⟩:=dY d;have⟨o,d2⟩:=Ux j h (s:=[58]) om l (.inr i);exact⟨om,d2⟩
theorem ZJ(k:n.Wf)(o:∀a i d,b<=a->a<j' n.ts->u a=.ok i d->a<d/\d<j' n.ts):∀(j:Nat) (i:Ex) (a:Nat) (l:Ex) (d:Nat),b<=a->a<j' n.ts->lg u n j i a=.ok l d->a<=d/\d<j' n.ts:=by
 intro j;induction j with
 |zero=>intro i a l d _ _ c;cases c
 |succ j t=>
  intro i a l d q f c;rw[lg]at c;split at c
  ·rename_i e;split at c
   ·cases c
   rename_i s q1 h;have⟨p,r⟩:=gy k (k.step f e) h
   grind
  split at c
  ·rename_i e;split at c
   ·cases c
   rename_i w q1 h;have⟨p,r⟩:=yr k o om (k.step f e) h
   grind
  cases c;exact⟨aiv _,f⟩
def ahK:Nat->Bool:=λa=>aiw a 13
def ZK(g:n.Wf)(l:oo lY (fG m u n) n b)(o:oo dz u n (b+1)):oo uc (gK m u n) n b:=by
 have O:=g.len;refine oo.of (λr Q c s L J=>?_) (λr s y=>?_)
 ·rw[gK]at J;split at J
  ·cases J
  rename_i q q1 Y;have⟨f,U⟩:=l.lt r q q1 s L Y;have⟨af,H⟩:=ZJ g o.lt _ q q1 Q c om U J;exact⟨om,H⟩
 refine cB ahK (λ_=>Z) ?_;refine l.call r s y 0 _ _ Z (λq H c K e=>?_) (λB M c K=>?_)
 ·have⟨D,h⟩:=l.lt r q c s y K;obtain⟨k,X,S,P,j,p,R,I,rfl⟩:=e.eight;refine ck.iter (λ_:Nat×Ex×cP=>[(0,.bp 0 0),(2,.bp 1 0),(3,.bp 2 0)]) (λf=>[ee n f.1,.box jz,.box (f.2.2.map V.d)]) (λf=>j' n.ts-f.1)
   (λf=>r<f.1/\f.1<j' n.ts/\iz f.2.1 f.2.2/\∃i,j' n.ts-f.1<i/\gK m u n r=lg u n i f.2.1 f.1) ?_ (c,q,_) ⟨D,h,e,j' n.ts,by show (j' n.ts)-c<j' n.ts;omega,by rw[gK,K]⟩
  rintro⟨c,q,H⟩ ⟨A,v,G,i,z,F⟩;have D:r<c:=A;have h:c<j' n.ts:=v;have e:iz q H:=G;have ae:j' n.ts-c<i:=z;have a:gK m u n r=lg u n i q c:=F;clear A v G z F;obtain⟨k,X,S,P,j,p,R,I,rfl⟩:=e.eight;obtain⟨i,rfl⟩:∃W,i=W+1:=⟨i-1,om⟩;rw[lg]at a;refine dj n c (n.tok c) [46] (cn h) om 0 Z (λw=>?_) (λw=>?_)
  ·have d:=g.step h w;rw[X' w]at a;intro ac;refine cy ?_;refine lZ n (c+1) _ (cn d) om 0 ?_ (λN=>?_) (λN=>?_)
   ·exact Z
   ·have E:c+1+1<j' n.ts:=g.go (c+1) _ (cn d) om;simp only[dp,N,ne_eq,not_true,b_]at a;refine cy ?_;refine⟨(c+1+1,.mk 6 [] (n.tok (c+1)).text [] 0 [] [] [q],_),⟨by show r<c+1+1;omega,E,.mk .nil .nil (.ps (.cons e .nil)),i,by show (j' n.ts)-(c+1+1)<i;omega,a⟩,by show (j' n.ts)-(c+1+1)<j' n.ts-c;omega,.eD 3,Z,Z⟩
   refine a8 1 (cZ (by rw[a];simp only[dp,N,ne_eq,not_false_eq_true,c_]))
  rw[W' (by rw[w];decide)]at a;refine dj n c (n.tok c) [40] (cn h) om 0 Z (λx=>?_) (λx=>?_)
  ·have d:=g.step h x;rw[X' x]at a;refine GH g [41] 9 (kids:=[q]) (oe:=[[.int .i64 (ait k),.str X,.str S,.str P,.int .i64 j,p,R,I]]) (o.up om) d (.cons e .nil) (aiv _) 0 3 dc Z Z (λQ d2 q2 ad t C T=>?_) (λB M q2 ad t T=>?_)
   ·have⟨f,U⟩:=yr g o.lt om d t;obtain⟨k,X,S,P,j,p,R,I,rfl⟩:=C.eight;rw[t]at a;refine⟨(q2,Q,_),⟨by show r<q2;omega,U,C,i,by show (j' n.ts)-q2<i;omega,a⟩,by show (j' n.ts)-q2<j' n.ts-c;omega,.eD 3,Z,Z⟩
   rw[t]at a;refine a8 1 (cZ a)
  rw[W' (by rw[x];decide)]at a;refine a8 1 (eL a e)
 refine a8 1 (cZ (by rw[gK,K]))
def cV.gone{o:Nat}{e:dt}{a:VS}{l:dt->VS->Prop}(p:cV o e (a++[.gone]) l):cV o e a l:=by
 refine⟨λc h k i d=>?_⟩;have f:F7 c (j' (a++[cX.gone])) e:=by
  cases e with
  |ret j=>exact gk.mono (Fz.le_refl _) Ag (show gk c (j' a) j from d)
  |fJ j=>exact gk.mono (Fz.le_refl _) Ag (show gk c (j' a) j from d)
 exact p.go c h k i.gone f
def pv(a:n_ Nat):n_ V:=a.map λc=>.bp c 0
variable{T:n_ Nat}
def PG(h:∀a∈T,a<b)(c:∀a,a<b->v a=a):jh v (pv T)=pv T:=by
 induction T with
 |nil=>rfl
 |cons e T d=>
  show V.bp (v e) 0::jh v (pv T)=_;rw[c e (h e sm),d λa f=>h a (by simp[f])];rfl
def abH(e:∀c∈T,c<b):hP b (pv T)=A':=by
 induction T with
 |nil=>rfl
 |cons d T a=>
  show(aiV d b&&hP b (pv T))=A'
  simp_all
def s9(e:Nat)(d a:VS):Prop:=∃c,DQ e c 0=A'/\c.Nodup/\e<=j' a/\wM (kU c (j' d)) (j' a) d c a
theorem s9.code{c gA:VS}(t:s9 b c gA)(hcs:∀i∈T,i<b)(h0:0<b){f:x9}{s:Code}{h:Tm}{a:cC}{r:Hy->Tm->n_ gR->o9->VS->Prop}(k:f.fl=b) 
  (l:np [(0,.bp 0 0),(1,cv B),(2,cv a),(3,.fn K [] (pv T))] h) (p:ck C cm f s [(0,.bp 0 0),(1,cv B),(2,cv a),(3,.fn K [] (pv T))] [] .none gA r):ck C cm f s h [] .none c r:=by
 have⟨d,j,o,h3,q⟩:=t;have e:∀i,i<b->kU d (j' c) i=i:=λi hi=>by
  have:=tW j hi;rw[me this];omega
 refine ck.pick b d (fx:=[(0,.bp 0 0),(1,cv B),(2,cv a),(3,.fn K [] (pv T))]) ?_ ?_ (by rw[k,aiP];exact aiv b) j Z Z o q p
 ·show np [(0,V.bp (kU d (j' c) 0) 0),(1,cv B),(2,cv a),(3,V.fn K [] (jh (kU d (j' c)) (pv T)))] h;rw[e 0 h0,PG hcs e];exact l
 show(aiV 0 (j' gA)&&(A'&&(A'&&((A'&&hP (j' gA) (pv T))&&A'))))=A';exact J2
def ahL:Nat->Bool:=λa=>aiw a 18||aiw a 1000002
def Ln{q w:Type}(W:n.Wf)(c:cC)(step:q->Nat->PR q)(I:q->w->Nat->Prop)(V:w->VS)(k:VS)(K:Nat)(r:FuncId)(S:(C.ff.get r).isSome=A')(o:n_ Nat){g0:q}{a0:w}(u:b<j' n.ts)(v:I g0 a0 b)(y:∀l d e,I l d e->I l d (e+1))(B:k++[.gone]=V a0)(ad:j' k+1=K)(G:∀d,K<=j' (V d)+1)(O:∀ak∈o,ak<K) 
  (ac:∀l d e,I l d e->b<=e->e<j' n.ts->∀z:dt->VS->Prop,
   (∀p j a h,step l e=.ok p a->I p j a->e<a->a<j' n.ts->s9 K (ee n a::h) (ee n a::V j)->z (.ret (.dP [])) (ee n a::h))->
   (∀i D a h,step l e=.bad i D->K<=j' h+1->z (.fJ (dX i D)) (ee n a::h))->b7 C cm r (pv o) (ee n e::V d) z) (P:∀l d e,ec step n c g0 b=.ok l e->I l d e->b<e->e<j' n.ts->g (.ret (.dP [])) (ee n e::V d))
  (N:∀i D e h,ec step n c g0 b=.bad i D->g (.fJ (dX i D)) (ee n e::h)):
  b7 C cm If [.bp 0 0,cv [44],cv c,.fn r [] (pv o)] (ee n b::k) g:=by
 have aa:=W.len;refine cB ahL (λ_=>Z) ?_;refine dj n b (n.tok b) c (cn u) om 0 Z (λU=>?_) (λU=>?_)
 ·refine cV.gone ?_;refine cV.now (by rw[aiP];simp) ?_;show g (.ret (.dP [])) (ee n (b+1)::(k++[.gone]));rw[B];exact P g0 a0 (b+1) (by rw[ec,X' U]) (y _ _ _ v) (aiU b) (W.step u U)
 refine iV (fx:=[(0,.bp 0 0),(1,cv [44]),(2,cv c),(3,.fn r [] (pv o))]) ?_;refine ck.gone ?_;show ck _ _ _ _ _ _ _ (ee n b::(k++[.gone])) _;rw[B];refine ck.iter (λ_:Nat×q×w=>[(0,.bp 0 0),(1,cv [44]),(2,cv c),(3,.fn r [] (pv o))]) (λd=>ee n d.1::V d.2.2) (λd=>j' n.ts-d.1)
  (λd=>b<=d.1/\d.1<j' n.ts/\I d.2.1 d.2.2 d.1/\∃t,j' n.ts-d.1<=t/\ec step n c g0 b=fh step n c t d.2.1 d.1) ?_ (b,g0,a0) ⟨aiv _,u,v,_,by show (j' n.ts)-b<=j' n.ts;omega,by rw[ec,W' (by rw[U];decide)]⟩
 rintro⟨e,l,d⟩ ⟨L,F,E,t,H,J⟩;have A:b<=e:=L;have Y:e<j' n.ts:=F;have Q:I l d e:=E;have aj:j' n.ts-e<=t:=H;have f:ec step n c g0 b=fh step n c t l e:=J;clear L F E H J v;obtain⟨t,rfl⟩:∃ab,t=ab+1:=⟨t-1,om⟩;rw[fh]at f;conv=>whnf
 rw[S];refine ac l d e Q A Y _ (λp j a h D R ae s M=>?_) (λi ai a h D ag=>?_)
 ·rw[D]at f;dsimp only at f;refine M.code O om ad ⟨Z,Z,Z,Z,tv⟩ ?_;refine gU ?_;refine dj n a (n.tok a) c (cn s) om 0 Z (λx=>?_) (λx=>?_)
  ·rw[X' x]at f;refine cV.now (by rw[aiP];show (j' k)+1<=j' (V j)+1;have:=G j;omega) ?_;exact P p j (a+1) f (y _ _ _ R) om (W.step s x)
  rw[W' (by rw[x];decide)]at f;intro X;refine iZ W [44] s X _ 0 Z (λm T=>?_) (λm af=>?_)
  ·rw[yq m]at f;refine⟨(a+1,p,j),⟨by show b<=a+1;omega,T,y _ _ _ R,t,by show (j' n.ts)-(a+1)<=t;omega,f⟩,by show (j' n.ts)-(a+1)<j' n.ts-e;omega,.eS,Z,Z⟩
  refine cV.now (by rw[aiP];show (j' k)+1<=j' (V j)+1;have:=G j;omega) ?_;exact N _ _ _ _ (by rw[f];simp only[cw,m,b_,ais])
 rw[D]at f;refine cV.now (by rw[aiP];show (j' k)+1<=j' h+1;omega) ?_;exact N _ _ _ _ f
def PH(c:Nat)(e:cP)(d:n_ cP)(a:cP):q' (cX.row c (aiJ (j' d+1) (aiK 0 (aiD (λa=>aiD V.d a) (e::d)))++[a.map V.d]))=q' (.row c (((e::d)++[a]).map λa=>a.map V.d)):=by
 exact Cw
def acr(a:FE)(c:n_ FE):q' (kO 9 (PD (a::c)))=q' (.row 9 (dW A' (a::c))):=by
 simp[kO,PD,dW,B2,Function.comp_def]
def EL(a:J=.bad y H):cV 1 (.fJ (dX y H)) (ee n b::z) (Ra n J):=
 cV.drop 1 rfl (by show(gP 1 (ee n b)&&ml 1 z 0)=A';rw[ml];rfl) rfl (cV.now rfl (cZ a))
def E3{c d:D}{types:n_ Ty}{els:n_ cP}(e a:Nat)(o:nth z e=q' (.row 8 (els.map λp=>p.map V.d)))(f:a=j' els)(j:ir F els)(i:ft types c)(k:e9 M d)(l:J=.ok (.mk y [] B [] 0 types M F) b):
  cV 1 (.ret (.agg (jx y B c (.d d) (.ms (e+1) 8 0 a a)))) (ee n b::z) (Ra n J):=by
 refine cV.freeze (e+1) (es:=8) (l:=els) o (dF els) (by repeat' (first|exact tv|exact λ_=>⟨rfl,by simp[f]⟩|refine aiL ?_ ?_)) (λh=>?_);have r:qL (e+1) h els (.ret (.agg (jx y B c (.d d) (.ms (e+1) 8 0 a a))))=.ret (.agg (([.int .i64 (ait y),.str [],.str B,.str [],.int .i64 (ait 0),c,d,.ps h 0 8 a els]:cP).map V.d)):=by
  show dt.ret (.agg (jx y B c (.d d) (jN (e+1) h els (.ms (e+1) 8 0 a a))))=_;rw[jN,gr];show dt.ret (.agg (jx y B c (.d d) (.d (.ps h (0*8) 8 a ((els.drop 0).take a)))))=_;rw[eG _ _ f];rfl
 rw[r];refine cV.drop 1 Z (by show(gP 1 (ee n b)&&ml 1 (z.set e .gone) 0)=A';rw[ml];rfl) (sK 1 _) (cV.now Z ?_);exact eL l (.mk i k (.ps j))
def ahM:Nat->Bool:=λa=>aiw a 7
def p1I(d:n_ Ex)(a:n_ cP)(c:Nat):Prop:=ir d a/\j' a<=c
def p1T(tok:cP)(c:D)(a:n_ cP):VS:=[.box [.bp 0 0],.box jz,.box (tok.map V.d),.box (jx 14 [] c (.d .cu) (kV 5 8 a)),kO 8 a]
def Yx(a:n_ cP):j' a+1<j' a+1+1:=aiU _
theorem N9(a:cP)(c:n_ cP):nth (aiJ (j' c+1) (aiK 0 (aiD (λd=>aiD V.d d) (a::c)))++[jz]) (0+(j' c+1))=q' jz:=by
 grind [cx]
theorem ZL(c:cP)(d:n_ cP)(a:cP):(aiJ (j' d+1) (aiK 0 (aiD (λa=>aiD V.d a) (c::d)))++[jz]).set (0+(j' d+1)) (a.map V.d)=aiD (λa=>aiD V.d a) (c::(d++[a])):=by
 grind [aiF,aiZ]
def PJ(tok:cP):q' (cX.box (tok.map V.d))=q' (eb v (.box (tok.map V.d))):=by rw[eb,Zx]
def Uy(tok:cP):gP b (.box (tok.map V.d))=A':=sK b tok
def aeU(c:D)(d:cP)(a:n_ cP)(e:cP)(f:v y=b):q' (cX.box (jx 14 [] c (.d .cu) (.ms b 8 0 (j' a+1+1) (j' a+1+1))))=q' (eb v (.box (jx 14 [] c (.d .cu) (kV y 8 ((d::a)++[e]))))):=by
 subst f;exact Bu Z (by rw[pt];exact mI _ 8 d a e)
def acs(c:cP)(a:n_ cP)(d:cP):q' (cX.row 8 ((aiJ (j' a+1) (aiK 0 (aiD (λd=>aiD V.d d) (c::a)))++[jz]).set (0+(j' a+1)) (d.map V.d)))=q' (eb v (kO 8 ((c::a)++[d]))):=by
 rw[ZL,Gy];rfl
def acu(S:n.Wf)(h:oo dz u n b)(tok:cP)(t:D)(V:n_ Ex)(s:n_ cP)(l:Nat)(L:p1I V s l)(j:b<=l)(I:l<j' n.ts)(g:dt->VS->Prop) 
  (m:∀A z c p,kh u V l=.ok A c->p1I A z c->l<c->c<j' n.ts->s9 5 (ee n c::p) (ee n c::p1T tok t z)->g (.ret (.dP [])) (ee n c::p))
  (B:∀f O c p,kh u V l=.bad f O->5<=j' p+1->g (.fJ (dX f O)) (ee n c::p)):b7 C cm rI (pv [4,1]) (ee n l::p1T tok t s) g:=by
 have K:=S.len;have⟨y,v⟩:=L;refine b7.body ahM (λ_=>Z) ?_;rcases s with _|⟨x0,xr⟩
 ·intro J;refine cy ?_;refine h.call l j I 0 _ _ ?_ (λH Q q1 a o=>?_) (λf G q1 a=>?_)
  ·exact Z
  rotate_left
  ·exact B _ _ _ _ (by simp only[kh,a,PR.map]) (by show 5<=6;omega)
  have⟨d,w⟩:=h.lt _ _ _ j I a;obtain⟨N,F,E,P,e,i,R,x,rfl⟩:=o.eight;have q:kh u V l=.ok (V++[H]) q1:=by simp only[kh,a,PR.map]
  have r:=y.snoc o;repeat first
   |refine bZ rfl ?_
   |refine cO ?_
   |refine cp jz rfl ?_
  refine m _ _ _ _ q ⟨r,by show 1<=q1;omega⟩ d w ⟨[0,1,2,3,4,6],Z,dc,by show 5<=6;omega,Z,Z,Z,Z,Z,Z,PJ tok,Uy tok,Z,Bv Z Z,mZ _ 8 [.int .i64 (ait N),.str F,.str E,.str P,.int .i64 e,i,R,x],iE _ _ _,tv⟩
 intro J;refine cy ?_;refine h.call l j I 0 _ _ ?_ (λH Q q1 a o=>?_) (λf G q1 a=>?_)
 ·exact Z
 rotate_left
 ·exact B _ _ _ _ (by simp only[kh,a,PR.map]) (by show 5<=6;omega)
 have⟨d,w⟩:=h.lt _ _ _ j I a;obtain⟨N,F,E,P,e,i,R,x,rfl⟩:=o.eight;have q:kh u V l=.ok (V++[H]) q1:=by simp only[kh,a,PR.map]
 have r:=y.snoc o;have M:j' xr+1<=l:=v;refine a6 ?_ ?_
 ·repeat' (first|exact tv|exact rfl|exact aiv _|exact(ug om (aiv _) (aiu rfl)).1|exact(ug om (aiv _) (aiu rfl)).2|(simp only[aiA,aix];omega)|refine bZ rfl ?_|refine aiL ?_ ?_)
 refine a6 Z (a6 ⟨Z,Z,by simp,aiv _,ug om (aiv _) (aiu Z)⟩ ?_);refine a7 Z (a7 (ej (j' xr+1)) ?_);refine a6 ?_ ?_
 ·exact JA
 refine bZ Z ?_;refine a6 (Yx xr) ?_;refine a6 ?_ ?_
 ·exact JA
 refine cp jz (N9 x0 xr) ?_;refine m _ _ _ _ q ⟨r,by simp only[aiy,aix,aiB];omega⟩ d w ⟨[0,1,2,3,4,6],Z,dc,by show 5<=6;omega,Z,Z,Z,Z,Z,Z,PJ tok,Uy tok,aeU t x0 xr [.int .i64 (ait N),.str F,.str E,.str P,.int .i64 e,i,R,x] Z,Bv Z (p1 8 _ Z),acs x0 xr [.int .i64 (ait N),.str F,.str E,.str P,.int .i64 e,i,R,x],iE _ _ _,tv⟩
abbrev ad2(c:Nat)(a:cP):D:=.ps c 0 5 1 [a]
def ahN:Nat->Bool:=λa=>aiw a 49||aiw a 55||aiw a 56||aiw a 59||aiw a 67||aiw a 70||aiw a 85||aiw a 87||aiw a 90
def SD(p:n.Wf)(a:cC)(k:iW m n b)(j:b<j' n.ts)(f:Nat)(c:nth z f=q' (ee n b))(k1:∀l d q,iA m n a b=.ok l q->iz l d->g (.ret (.agg (d.map V.d))) (z.set f (ee n q))) 
  (k2:∀off e q,iA m n a b=.bad off e->g (.fJ (dX off e)) (z.set f (ee n q))):b7 C cm w9 [.bp f 0,cv a] z g:=by
 refine b7.one (fk:=[.bp 0 0,cv a]) (P:=Wy n (iA m n a b)) (PF p a k j) f c Z Z Z (λr o h=>?_);unfold Wy at h;exact tq
def E4(a:(n.tok b).kind≠y):decide (ait (n.tok b).kind=ait y)=B':=Z' λc=>a (by simp only[aiH]at c;omega)
def BE(a:(n.tok b).kind=y):decide (ait (n.tok b).kind=ait y)=A':=by rw[a];exact a_ rfl
def BF(e:Nat->PR Ty)(a:Nat->PR Ex)(f:Rd)(j:Nat):PR Ex:=match e j with
 |.bad c d=>.bad c d
 |.ok i h=>match cw f [[124]] h with
  |.bad c d=>.bad c d
  |.ok _ q1=>(ec (kh a) f [93] [] q1).map λk=>.mk 14 [] [] [] 0 [i] [] k
theorem GI(P:n.Wf)(Y:n.Ng)(z:iW m n b)(D:oo dz u n (b+1))(o:b<j' n.ts):
  b7 C cm lY [.bp 0 0] [ee n b] (Ra n (fG m u n b)):=by
 have ao:=P.len;refine cB ahN (λ_=>Z) ?_;refine iL n b _ (cn o) 0 Z ?_;by_cases a:(n.tok b).kind=3
 ·refine b9 (BE a) ?_;refine ZH P Y 9223372036854775807 b o (.inl Z) 0 Z (λaB aw t p r=>?_) (λs V t p=>?_)
  ·obtain⟨k,ak,al,G,g,y,H,J,rfl⟩:=r.eight;refine a8 1 (eL (by rw[fG,X' a,p]) r)
  refine a8 1 (cZ (by rw[fG,X' a,p]))
 refine a7 (E4 a) ?_;by_cases d:(n.tok b).kind=4
 ·refine b9 (BE d) ?_;refine j8 n b _ (cn o) om 0 Z ?_;have E:gZ (n.tok b) b=b+1:=by rw[gZ,W' om]
  rw[E];refine a8 1 (eL (by rw[fG,W' a,X' d]) (.mk .nil .nil .nil))
 refine a7 (E4 d) ?_;by_cases c:(n.tok b).kind=1
 ·refine b9 (BE c) ?_;have e:b+1<j' n.ts:=P.go b _ (cn o) om;refine cy ?_;refine j8 n b _ (cn o) om 0 Z ?_;have E:gZ (n.tok b) b=b+1:=by rw[gZ,W' om]
  rw[E];refine cy ?_;refine SD P (n.tok b).text ⟨λU am t aj=>z.lt U am t om,λU aj=>z.call U om⟩ e 0 Z (λaB aw t p r=>?_) (λs V t p=>?_)
  ·obtain⟨k,ak,al,G,g,y,H,J,rfl⟩:=r.eight;refine cy ?_;refine a8 1 (eL (by rw[fG,W' a,W' d,X' c,p]) r)
  refine a8 1 (cZ (by rw[fG,W' a,W' d,X' c,p]))
 refine a7 (E4 c) ?_;refine dj n b _ [116,114,117,101] (cn o) om 0 Z (λf=>?_) (λf=>?_)
 ·refine a8 1 (eL (by simp only[fG,a,d,c,f,b_,c_]) (.mk .nil .nil .nil))
 refine dj n b _ [102,97,108,115,101] (cn o) om 0 Z (λi=>?_) (λi=>?_)
 ·refine a8 1 (eL (by simp only[fG,a,d,c,f,i,b_,c_,ais]) (.mk .nil .nil .nil))
 refine dj n b _ [123] (cn o) om 0 Z (λj=>?_) (λj=>?_)
 ·have e:=P.step o j;refine b7.gone ?_;refine GH P [125] 5 (kids:=[]) (oe:=[]) D e .nil (aiE _) 0 4 dc Z Z (λaN d2 q2 aE N M ap=>?_) (λs V q2 aE N ap=>?_)
  ·obtain⟨k,ak,al,G,g,y,H,J,rfl⟩:=M.eight;refine a8 1 (eL (by simp only[fG,a,d,c,f,i,j,b_,c_,ais,N]) M)
  refine a8 1 (cZ (by simp only[fG,a,d,c,f,i,j,b_,c_,ais,N]))
 refine dj n b _ [60] (cn o) om 0 Z (λl=>?_) (λl=>?_)
 ·have e:=P.step o l;refine lZ n (b+1) _ (cn e) om 0 Z (λA=>?_) (λA=>?_)
  ·have af:b+1+1<j' n.ts:=P.go (b+1) _ (cn e) om;intro ad;refine iZ P [58] af ad _ 0 Z (λh L=>?_) (λh t=>?_)
   ·refine cy ?_;refine D.call (b+1+1+1) om L 0 _ _ Z (λaB aw t p r=>?_) (λs V t p=>?_)
    ·have⟨ah,R⟩:=D.lt _ _ _ om L p;obtain⟨k,ak,al,G,g,y,H,J,rfl⟩:=r.eight;intro aG;refine db ?_;intro B;refine db ?_;intro an;refine iZ P [62] R an _ 0 Z (λq ae=>?_) (λq t=>?_)
     ·refine a8 1 (eL (by simp only[fG,dp,eV,cw,PR.map,a,d,c,f,i,j,l,A,h,q,b_,c_,ne_eq,not_true,ais,p]) (.mk .nil .nil (.ps (.cons r .nil))))
     refine a8 1 (cZ (by simp only[fG,dp,eV,cw,PR.map,a,d,c,f,i,j,l,A,h,q,b_,c_,ne_eq,not_true,ais,p]))
    refine a8 1 (cZ (by simp only[fG,dp,eV,cw,PR.map,a,d,c,f,i,j,l,A,h,b_,c_,ne_eq,not_true,ais,p]))
   refine a8 1 (cZ (by simp only[fG,dp,eV,cw,PR.map,a,d,c,f,i,j,l,A,h,b_,c_,ne_eq,not_true,ais]))
  refine a8 1 (cZ (by simp only[fG,dp,a,d,c,f,i,j,l,A,b_,c_,ne_eq,not_false_eq_true,ais]))
 refine dj n b _ [91] (cn o) om 0 Z (λw=>?_) (λw=>?_)
 ·have e:=P.step o w;have F:fG m u n b=BF m u n (b+1):=by
   simp only[fG,a,d,c,f,i,j,l,w,b_,c_,ais];rfl
  rw[F];clear F;refine z.call (b+1) om e 0 _ _ Z (λam az ag p x=>?_) (λs V t p=>?_)
  ·have⟨aD,Q⟩:=z.lt _ _ _ om e p;obtain⟨O,S,tn,T,W,rfl⟩:=x.dL;intro ad;intro B;refine iZ P [124] Q B _ 0 Z (λh v=>?_) (λh t=>?_)
   ·have F:BF m u n (b+1)=(ec (kh u) n [93] [] (ag+1)).map λaK=>.mk 14 [] [] [] 0 [am] [] aK:=by
     grind [BF,cw]
    rw[F];clear F;have ab:oo dz u n (ag+1):=D.up om;refine Ln P [93] (kh u) p1I (p1T [.int .i64 (ait (n.tok b).kind),.str (n.tok b).text,.int .i64 (ait (n.tok b).off)] (ad2 ad [.int .i64 (ait O),.str S,.str tn,T,W])) (g0:=[]) (a0:=[]) [.box [.bp 0 0],.box jz,.box [cl (n.tok b).kind,cv (n.tok b).text,cl (n.tok b).off],.box (jx 14 [] (ad2 ad [.int .i64 (ait O),.str S,.str tn,T,W]) (.d .cu) (.d .cu))] 5 rI Z [4,1] v ⟨.nil,aiE _⟩ (λav aa t aj=>⟨aj.1,Nat.le_succ_of_le aj.2⟩) Z Z (λaa=>by show 5<=6;omega) dc (λav aa t h q aq ay c au=>acu P ab _ _ av aa t h q aq ay c au) (λav aa t K aC _ ah=>?_) (λs V t aL K=>?_)
    ·have⟨ai,aI⟩:=aC;rcases aa with _|⟨aF,ax⟩
     ·cases ai;refine a8 1 (eL (by rw[K];rfl) (.mk (.ps (.cons x .nil) sm) .nil .nil))
     exact E3 4 (j' ax+1) Z Z ai (.ps (.cons x .nil) sm) .nil (by rw[K];rfl)
    exact EL (by rw[K];rfl)
   refine a8 1 (cZ (by simp only[BF,p,cw,h,b_,ais]))
  refine a8 1 (cZ (by simp only[BF,p]))
 refine dj n b _ [40] (cn o) om 0 Z (λI=>?_) (λI=>?_)
 ·have e:=P.step o I;refine D.call (b+1) om e 0 _ _ Z (λaB aw t p r=>?_) (λs V t p=>?_)
  ·have⟨ah,R⟩:=D.lt _ _ _ om e p;obtain⟨k,ak,al,G,g,y,H,J,rfl⟩:=r.eight;refine dj n t _ [58] (cn R) om 0 Z (λh=>?_) (λh=>?_)
   ·have v:=P.step R h;intro aH;refine cy ?_;refine z.call (t+1) om v 0 _ _ Z (λam az q2 N x=>?_) (λs V q2 N=>?_)
    ·have⟨ae,X⟩:=z.lt _ _ _ om v N;obtain⟨O,S,tn,T,W,rfl⟩:=x.dL;intro ad;refine cy ?_;intro B;refine iZ P [41] X B _ 0 Z (λq ac=>?_) (λq t=>?_)
     ·refine a8 1 (eL (by simp only[fG,cw,PR.map,a,d,c,f,i,j,l,w,I,h,q,b_,c_,ais,p,N]) (.mk (.ps (.cons x .nil) sm) .nil (.ps (.cons r .nil))))
     refine a8 1 (cZ (by simp only[fG,cw,PR.map,a,d,c,f,i,j,l,w,I,h,q,b_,c_,ais,p,N]))
    refine a8 1 (cZ (by simp only[fG,cw,PR.map,a,d,c,f,i,j,l,w,I,h,b_,c_,ais,p,N]))
   intro B;refine iZ P [41] R B _ 0 Z (λq ac=>?_) (λq t=>?_)
   ·refine a8 1 (eL (by simp only[fG,cw,PR.map,a,d,c,f,i,j,l,w,I,h,q,b_,c_,ais,p]) r)
   refine a8 1 (cZ (by simp only[fG,cw,PR.map,a,d,c,f,i,j,l,w,I,h,q,b_,c_,ais,p]))
  refine a8 1 (cZ (by simp only[fG,a,d,c,f,i,j,l,w,I,b_,c_,ais,p]))
 refine jl _ (n.tok b).off 3 ?_;refine a8 1 (cZ (by simp only[fG,a,d,c,f,i,j,l,w,I,b_,ais]))
abbrev Uz(d:cC)(e:Nat)(h a:cC)(f c:D)(j:Bool)(i:D):FE:=⟨d,e,h,a,f,c,j,[],i⟩
def ahO:Nat->Bool:=λa=>aiw a 8||aiw a 14||aiw a 23
def ahP:Nat->Bool:=λa=>aiw a 10||aiw a 24||aiw a 25||aiw a 29
def SE(j:Nat)(l:cC)(e:D)(w:l0 G A)(q:(A.map FE.n).Nodup)(m:∀k∈G,j' k.val<=1)(d:Nat)(b:d=j' A)(R:d<4294967295)(h i:Nat)(o:h≠i)(r:nth z h=q' (.row 9 (dW A' A)))(x:nth z i=q' .gone) 
  (I:∀k c a,gP 0 k=A'->e9 ((cz dg.n G).map dg.rO) c->ir ((cz dg.n G).flatMap dg.val) a->j' a<=d+1->g (.ret (.agg (jx j l e (.d c) (kV (j' z) 8 a)))) (((z.set h k).set i .gone)++[kO 8 a])):
  b7 C cm kW [.agg (jx j l e (.d .cu) (.d .cu)),.d .cu,.ms h 9 0 d d] z g:=by
 refine(Sz j l e w q m d b R).frame [h,i] Z (by simp[o]) (λn s f=>?_) Z Z (λu N f _=>?_)
 ·match n,f with
  |0,f=>
   obtain rfl:h=s:=by simpa using f
   exact⟨_,Z,by rw[<-cx,r];exact uh _ _,fU _ _ _⟩
  |1,f=>
   obtain rfl:i=s:=by simpa using f
   exact⟨_,Z,by rw[<-cx,x];rfl,Z⟩
  |n+2,f=>simp at f
 obtain⟨k,c,a,rfl,p,t,V,P,rfl⟩:=f;have v:pT (kU [h,i] (j' z)) (.ret (.agg (jx j l e (.d c) (kV 2 8 a))))=.ret (.agg (jx j l e (.d c) (kV (j' z) 8 a))):=by
  show dt.ret (.agg (jx j l e (.d c) (iN _ (kV 2 8 a))))=_;rw[pt];rfl
 rw[v];simp only[List.map_cons,List.map_nil,gq _ _ p,Gy,merge];exact I k c a p t V P
def f1I(c:n_ dg)(a:n_ FE)(e:Nat):Prop:=l0 c a/\(a.map FE.n).Nodup/\(∀d∈c,j' d.val<=1)/\j' a<=e
def f1T(a:n_ FE):VS:=[.box [.bp 0 0],.box jz,.box [kV 6 9 (PD a)],qQ (a.map FE.n),.box [.map 4],kO 9 (PD a)]
def ags{π:Nat->Nat}(a:n_ FE)(c:FE):q' (qQ (a.map FE.n++[c.n]))=q' (eb π (qQ ((a++[c]).map FE.n))):=by
 exact Cz
def acv(ah:n.Wf)(ac:iW m n b)(L:oo dz u n b)(V:n_ dg)(w:n_ FE)(c:Nat)(an:f1I V w c)(aq:b<=c)(ae:c<j' n.ts)(W:dt->VS->Prop) 
  (Y:∀ag af l g,eA m u n V c=.ok ag l->f1I ag af l->c<l->l<j' n.ts->s9 6 (ee n l::g) (ee n l::f1T af)->W (.ret (.dP [])) (ee n l::g))
  (G:∀N ar l g,eA m u n V c=.bad N ar->6<=j' g+1->W (.fJ (dX N ar)) (ee n l::g)):b7 C cm qu (pv [1,5,3]) (ee n c::f1T w) W:=by
 have al:=ah.len;have⟨Q,K,aw,I⟩:=an;have H:=Q.names;refine b7.body ahP (λ_=>Z) ?_;refine u9 n ah c ae (w.map FE.n) 0 4 dc Z Z (λo a=>?_) (λo a=>?_) (λo=>?_)
 ·have a:(n.tok c).text ∉ V.map dg.n:=H▸a;have ab:c+1<j' n.ts:=ah.go c _ (cn ae) om;intro ai;refine iZ ah [58] ab ai _ 0 ?_ (λP M=>?_) (λP l=>?_)
  ·exact Z
  ·refine ac.call (c+1+1) om M 0 _ _ ?_ (λX au q2 R v=>?_) (λN aj q2 R=>?_)
   ·exact Z
   ·have⟨ak,D⟩:=ac.lt _ _ _ om M R;obtain⟨d,h,tn,e,f,rfl⟩:=v.dL;refine dj n q2 (n.tok q2) [61] (cn D) om 0 ?_ (λz=>?_) (λz=>?_)
    ·exact Z
    ·have O:=ah.step D z;refine cy ?_;refine L.call (q2+1) om O 0 _ _ ?_ (λad ax q3 J aa=>?_) (λN aj q3 J=>?_)
     ·exact Z
     ·have⟨ap,U⟩:=L.lt _ _ _ om O J;obtain⟨s,T,S,t,j,i,x,q,rfl⟩:=aa.eight;intro av;refine db ?_;intro r;refine db ?_;intro ao;have A:eA m u n V c=.ok (V++[⟨(n.tok c).text,[],X,A',[ad]⟩]) q3:=by simp only[eA,eg,o,ne_eq,not_true,b_,a,cw,P,c_,R,z,J,PR.map]
      have E:l0 (V++[⟨(n.tok c).text,[],X,A',[ad]⟩]) (w++[Uz (n.tok c).text d h tn e f A' (.ps r 0 8 1 [[.int .i64 (ait s),.str T,.str S,.str t,.int .i64 j,i,x,q]])]):=Q.snoc rfl rfl rfl v (.ps (.cons aa .nil));have p:=ym (x:=(Uz (n.tok c).text d h tn e f A' (.ps r 0 8 1 [[.int .i64 (ait s),.str T,.str S,.str t,.int .i64 j,i,x,q]]))) K H a;have B:∀am∈V++[(⟨(n.tok c).text,[],X,A',[ad]⟩:dg)],j' am.val<=1:=by
       exact xU
      rcases w with _|⟨y,F⟩;all_goals
       first
        |refine a6 rfl (a6 ⟨aiu rfl,aiu rfl⟩ (a7 rfl ?_))
        |refine a6 rfl (a6 ⟨rfl,rfl,by simp,aiv _,ug (by simp only[aix,aiA]at I⊢;omega) (aiv _) (aiu rfl)⟩ (a7 rfl (a7 (mY _) ?_)))
       refine Y _ _ _ _ A ⟨E,p,B,by simp only[aiy,aix,aiB]at I⊢;omega⟩ om U ⟨[0,1,2,3,4,5,8],Z,dc,by show 6<=7;omega,Z,Z,Z,Z,Z,Z,by first|exact BA (Uz (n.tok c).text d h tn e f A' (.ps r 0 8 1 [[.int .i64 (ait s),.str T,.str S,.str t,.int .i64 j,i,x,q]])) rfl|exact yn y F (Uz (n.tok c).text d h tn e f A' (.ps r 0 8 1 [[.int .i64 (ait s),.str T,.str S,.str t,.int .i64 j,i,x,q]])) rfl,E2 _ Z,ags _ (Uz (n.tok c).text d h tn e f A' (.ps r 0 8 1 [[.int .i64 (ait s),.str T,.str S,.str t,.int .i64 j,i,x,q]])),nM _ _ (ko _),Z,Z,by first|exact BB (Uz (n.tok c).text d h tn e f A' (.ps r 0 8 1 [[.int .i64 (ait s),.str T,.str S,.str t,.int .i64 j,i,x,q]]))|exact yo y F (Uz (n.tok c).text d h tn e f A' (.ps r 0 8 1 [[.int .i64 (ait s),.str T,.str S,.str t,.int .i64 j,i,x,q]])),iE _ _ _,tv⟩
     exact G _ _ _ _ (by simp only[eA,eg,o,ne_eq,not_true,b_,a,cw,P,c_,R,z,J,PR.map]) (by show 6<=8;omega)
    intro ao;have A:eA m u n V c=.ok (V++[⟨(n.tok c).text,[],X,B',[]⟩]) q2:=by simp only[eA,eg,o,ne_eq,not_true,b_,a,cw,P,c_,R,z,ais]
    have E:l0 (V++[⟨(n.tok c).text,[],X,B',[]⟩]) (w++[Uz (n.tok c).text d h tn e f B' .cu]):=Q.snoc rfl rfl rfl v .nil;have p:=ym (x:=(Uz (n.tok c).text d h tn e f B' .cu)) K H a;have B:∀am∈V++[(⟨(n.tok c).text,[],X,B',[]⟩:dg)],j' am.val<=1:=by
     exact xU
    rcases w with _|⟨y,F⟩;all_goals
     first
      |refine a6 rfl (a6 ⟨aiu rfl,aiu rfl⟩ (a7 rfl ?_))
      |refine a6 rfl (a6 ⟨rfl,rfl,by simp,aiv _,ug (by simp only[aix,aiA]at I⊢;omega) (aiv _) (aiu rfl)⟩ (a7 rfl (a7 (mY _) ?_)))
     refine Y _ _ _ _ A ⟨E,p,B,by simp only[aiy,aix,aiB]at I⊢;omega⟩ om D ⟨[0,1,2,3,4,5,8],Z,dc,by show 6<=7;omega,Z,Z,Z,Z,Z,Z,by first|exact BA (Uz (n.tok c).text d h tn e f B' .cu) rfl|exact yn y F (Uz (n.tok c).text d h tn e f B' .cu) rfl,E2 _ Z,ags _ (Uz (n.tok c).text d h tn e f B' .cu),nM _ _ (ko _),Z,Z,by first|exact BB (Uz (n.tok c).text d h tn e f B' .cu)|exact yo y F (Uz (n.tok c).text d h tn e f B' .cu),iE _ _ _,tv⟩
   exact G _ _ _ _ (by simp only[eA,eg,o,ne_eq,not_true,b_,a,cw,P,c_,R]) (by show 6<=8;omega)
  exact G _ _ _ _ (by simp only[eA,eg,o,ne_eq,not_true,b_,a,cw,P,ais]) (by show 6<=8;omega)
 ·have a:(n.tok c).text∈V.map dg.n:=H▸a;exact G _ _ _ _ (by simp only[eA,eg,o,ne_eq,not_true,b_,a,c_]) (by show 6<=7;omega)
 exact G _ _ _ _ (by simp only[eA,eg,o,ne_eq,not_false_eq_true,c_]) (by show 6<=7;omega)
def JX(a:Nat->PR Ex)(c:Rd):PR (n_ dg)->PR Ex
 |.bad d e=>.bad d e
 |.ok f q1=>(eV a c [61,62] q1).map (M8 (j9 8 [] [] [] f))
def SF(H:n.Wf)(r:iW m n b)(d:oo dz u n b)(B:b<j' n.ts):
  b7 C cm n7 [.bp 0 0] [ee n b] (Ra n (funcF m u n b)):=by
 have W:=H.len;refine cB ahO (λ_=>Z) ?_;intro S;refine iZ H [40] B S _ 0 Z (λI X=>?_) (λI q=>?_)
 ·have M:funcF m u n b=JX u n (ec (eA m u n) n [41] [] (b+1)):=by
   simp only[funcF,cw,I,c_];cases ec (eA m u n) n [41] [] (b+1)<;>rfl
  rw[M];have d:oo dz u n (b+1):=d.up om;have r:iW m n (b+1):=⟨λs ao q g=>r.lt s ao q om,λs g=>r.call s om⟩;refine Ln H [41] (eA m u n) f1I f1T (g0:=[]) (a0:=[]) [.box [.bp 0 0],.box jz,.box [.d .cu],qQ [],.box [.map 4]] 6 qu Z [1,5,3] X ⟨.nil,aiQ,by simp,aiE _⟩ (λai O q g=>⟨g.1,g.2.1,g.2.2.1,Nat.le_succ_of_le g.2.2.2⟩) Z Z (λO=>by show 6<=7;omega) dc (λai O q U L ab af J ac=>acv H r d ai O q U L ab af J ac) (λaq aa q R Y ag T=>?_) (λl D q al R=>?_)
  ·have⟨y,E,ad,t⟩:=Y;rw[R];intro Q;refine iZ H [61,62] T Q _ 0 Z (λh4 o=>?_) (λh4 ap=>?_)
   ·rcases aa with _|⟨K,G⟩
    ·cases y;refine cI (Wr 8 [] .cu) Z Z ?_;refine cy ?_;refine d.call (q+1) om o 0 _ _ Z (λah z q4 e4 a=>?_) (λl D q4 e4=>?_)
     ·obtain⟨i,j,nz,p,c,h,f,e,rfl⟩:=a.eight;intro A;refine db ?_;exact E3 7 1 (els:=[[.int .i64 (ait i),.str j,.str nz,.str p,.int .i64 c,h,f,e]]) Z Z (.cons a .nil) .nil .nil (by simp only[JX,eV,cw,h4,c_,e4,PR.map];rfl)
     exact Cp
    refine b7.gone ?_;refine SE 8 [] .cu y E ad (j' (G.map pe)+1) sm (by simp only[aix,aiA]at t⊢;omega) 6 7 dc (acr K G) Z (λs ak V aj x w v=>?_);rcases V with _|⟨ae,N⟩
    ·refine cy ?_;refine d.call (q+1) om o 0 _ _ ?_ (λah z q4 e4 a=>?_) (λl D q4 e4=>?_)
     ·exact Z
     ·obtain⟨i,j,nz,p,c,h,f,e,rfl⟩:=a.eight;intro A;refine db ?_;exact E3 9 1 (els:=[[.int .i64 (ait i),.str j,.str nz,.str p,.int .i64 c,h,f,e]]) Z Z (w.snoc a) .nil x (by simp only[JX,eV,cw,h4,c_,e4,PR.map];rfl)
     exact Cp
    refine cy ?_;refine d.call (q+1) om o 0 _ _ ?_ (λah z q4 e4 a=>?_) (λl D q4 e4=>?_)
    ·exact Z
    ·obtain⟨i,j,nz,p,c,h,f,e,rfl⟩:=a.eight;have P:j' N+1<=4294967296:=by simp only[aix,aiA]at v t;omega
     intro A;refine a6 ?_ ?_
     ·repeat' (first|exact tv|exact rfl|refine bZ rfl ?_|refine aiL ?_ ?_)
     refine a6 Z (a6 ⟨Z,Z,by simp,aiv _,ug P (aiv _) (aiu Z)⟩ (a7 Z (a7 (mY _) ?_)));refine db ?_;exact E3 9 (j' N+1+1) (PH 8 ae N [.int .i64 (ait i),.str j,.str nz,.str p,.int .i64 c,h,f,e]) sm (w.snoc a) .nil x (by simp only[JX,eV,cw,h4,c_,e4,PR.map];rfl)
    exact Cp
   exact EL (by simp only[JX,eV,cw,h4,b_,ais,PR.map])
  exact EL (by rw[R];rfl)
 refine a8 1 (cZ (by simp only[funcF,cw,I,b_,ais]))
abbrev mEl(c d:cC)(e:Nat)(a:cP):FE:=⟨c,0,[],[],.cu,.cu,B',d,.ps e 0 8 1 [a]⟩
def ahQ:Nat->Bool:=λa=>aiw a 9||aiw a 15
def ahR:Nat->Bool:=λa=>aiw a 12||aiw a 18||aiw a 19||aiw a 23
def PK(M:n.Wf)(aw:iW m n b)(e:oo dz u n b)(af:b<j' n.ts):
  b7 C cm rF [.bp 0 0] [ee n b] (Ra n (lD m u n b)):=by
 have bb:=M.len;refine cB ahQ (λ_=>Z) ?_;refine qR n M m b af aw 0 Z (λQ bz bm x W=>?_) (λU av a x=>?_)
 ·have⟨bw,z⟩:=lC M (λbi Q a I aj P=>aw.lt bi Q a I aj P) af x;obtain⟨az,aC,tn,aG,aO,rfl⟩:=W.dL;intro aK;refine e.call bm om z 0 _ _ ?_ (λq d0 aL h aa=>?_) (λU av a h=>?_)
  ·exact Z
  ·have⟨bq,ag⟩:=e.lt _ _ _ om z h;obtain⟨aS,aH,aA,ae,y,T,X,Y,rfl⟩:=aa.eight;intro bk;refine iZ M [123] ag bk _ 0 ?_ (λap au=>?_) (λap a=>?_)
   ·exact Z
   ·have ah:ft [Q] (.ps aK 0 5 1 [[.int .i64 (ait az),.str aC,.str tn,aG,aO]]):=.ps (.cons W .nil) sm;have aq:ir [q] [[.int .i64 (ait aS),.str aH,.str aA,.str ae,.int .i64 y,T,X,Y]]:=.cons aa .nil;have bj:lD m u n b=(ec (fX u n) n [125] [] (aL+1)).map (j9 13 [] [Q] [q]):=by simp only[lD,x,h,cw,ap,c_]
    rw[bj];generalize bv:aL+1=p at au⊢;have e:oo dz u n p:=e.up om;refine b7.body ad0 (λ_=>Z) ?_;refine dj n p (n.tok p) [125] (cn au) om 0 ?_ (λE=>?_) (λE=>?_)
    ·exact Z
    ·refine GC (P:=λF ax=>∃g,iz (j9 13 [] [Q] [q] []) g/\F=.ret (.agg (g.map V.d))) (fk:=[.agg (jx 13 [] _ (.d .cu) (.d .cu)),kV 0 8 [_],.d .cu]) (Ll 13 [] _ ah aq) 8 Z (ia 8 _) Z Z (λF ax aj=>?_);obtain⟨g,l,rfl⟩:=aj;obtain⟨J,aY,ba,K,t,m,L,O,rfl⟩:=l.eight;refine a8 1 (eL (by rw[ec,X' E];rfl) l)
    refine iV (fx:=[(0,.bp 0 0),(1,cv [44]),(2,cv [125]),(3,.fn tY [] [.bp 1 0,.bp 7 0,.bp 5 0])]) ?_;refine ck.gone ?_;refine ck.iter (λ_:Nat×n_ dg×n_ FE=>[(0,.bp 0 0),(1,cv [44]),(2,cv [125]),(3,.fn tY [] [.bp 1 0,.bp 7 0,.bp 5 0])])
     (λf=>[ee n f.1,.box [.bp 0 0],.box jz,.box (jx 13 [] (.ps aK 0 5 1 [[.int .i64 (ait az),.str aC,.str tn,aG,aO]]) (.d .cu) (.d .cu)),.box [cl aS,cv aH,cv aA,cv ae,.d (.int .i64 y),.d T,.d X,.d Y],.box [kV 8 9 (PD f.2.2)],qQ (f.2.1.map dg.n),.box [.map 6],kO 9 (PD f.2.2)]) (λf=>j' n.ts-f.1)
     (λf=>p<=f.1/\f.1<j' n.ts/\j' f.2.2<=f.1/\l0 f.2.1 f.2.2/\(f.2.2.map FE.n).Nodup/\(∀aM∈f.2.1,j' aM.val<=1)/\∃N,j' n.ts-f.1<=N/\fh (fX u n) n [125] (j' n.ts) [] p=fh (fX u n) n [125] N f.2.1 f.1) ?_ (p,[],[]) ⟨aiv _,au,aiE _,.nil,aiQ,by simp,_,by show (j' n.ts)-p<=j' n.ts;omega,rfl⟩
    rintro⟨a,G,v⟩ ⟨aU,aP,aX,aN,aI,aE,N,aB,aT⟩;have bu:p<=a:=aU;have aR:a<j' n.ts:=aP;have R:j' v<=a:=aX;have ay:l0 G v:=aN;have aV:(v.map FE.n).Nodup:=aI;have bA:∀aM∈G,j' aM.val<=1:=aE;have bx:j' n.ts-a<=N:=aB;have r:fh (fX u n) n [125] (j' n.ts) [] p=fh (fX u n) n [125] N G a:=aT;clear aU aP aX aN aI aE aB aT;obtain⟨N,rfl⟩:∃bl,N=bl+1:=⟨N-1,om⟩;have bp:=ay.names;have c:(ec (fX u n) n [125] [] p).map (j9 13 [] [Q] [q])=(fh (fX u n) n [125] (N+1) G a).map (j9 13 [] [Q] [q]):=by rw[ec,W' (by rw[E];decide),r]
    rw[fh]at c r;refine b7.body ahR (λ_=>Z) ?_;refine cy ?_;refine u9 n M a aR (G.map dg.n) 0 6 dc Z Z (λj d=>?_) (λj d=>?_) (λj=>?_)
    ·have ad:a+1<j' n.ts:=M.go a _ (cn aR) om;refine cy ?_;refine lZ n (a+1) _ (cn ad) om 0 ?_ (λi=>?_) (λi=>?_)
     ·exact Z
     ·have aJ:a+1+1<j' n.ts:=M.go (a+1) _ (cn ad) om;refine cy ?_;intro be;refine iZ M [61,62] aJ be _ 0 ?_ (λI S=>?_) (λI bc=>?_)
      ·exact Z
      ·refine cy ?_;refine e.call (a+1+1+1) om S 0 _ _ ?_ (λaQ g q1 H l=>?_) (λU av q1 H=>?_)
       ·exact Z
       ·have⟨bo,ab⟩:=e.lt _ _ _ om S H;obtain⟨J,aY,ba,K,t,ac,L,O,rfl⟩:=l.eight;intro bB;refine db ?_;intro o;refine db ?_;intro bC;have B:l0 (G++[⟨(n.tok a).text,(n.tok (a+1)).text,cY,B',[aQ]⟩]) (v++[mEl (n.tok a).text (n.tok (a+1)).text o [.int .i64 (ait J),.str aY,.str ba,.str K,.int .i64 t,ac,L,O]]):=ay.snoc rfl rfl rfl (.mk .nil .nil) (.ps (.cons l .nil));have s:=ym (x:=mEl (n.tok a).text (n.tok (a+1)).text o [.int .i64 (ait J),.str aY,.str ba,.str K,.int .i64 t,ac,L,O]) aV bp d;have A:∀aM∈G++[(⟨(n.tok a).text,(n.tok (a+1)).text,cY,B',[aQ]⟩:dg)],j' aM.val<=1:=by
         exact xU
        have aF:fX u n G a=.ok (G++[⟨(n.tok a).text,(n.tok (a+1)).text,cY,B',[aQ]⟩]) q1:=by simp only[fX,eg,dp,j,i,ne_eq,not_true,b_,d,eV,cw,I,c_,H,PR.map]
        rw[aF]at c r;dsimp only at c r;rcases v with _|⟨an,D⟩;all_goals
         first
          |refine a6 rfl (a6 ⟨aiu rfl,aiu rfl⟩ (a7 rfl ?_))
          |refine a6 rfl (a6 ⟨rfl,rfl,by simp,aiv _,ug (by simp only[aix,aiA]at R⊢;omega) (aiv _) (aiu rfl)⟩ (a7 rfl (a7 (mY _) ?_)))
         refine dj n q1 (n.tok q1) [125] (cn ab) om 0 ?_ (λP=>?_) (λP=>?_)
         ·exact Z
         ·rw[X' P]at c;first
           |refine b7.two (fk:=[.agg (jx 13 [] _ (.d .cu) (.d .cu)),kV 1 8 [_],.ms 0 9 0 1 1]) (P:=λF _ _=>∃g,iz (j9 13 [] [Q] [q] _) g/\F=.ret (.agg (g.map V.d))) ((ve 13 [] _ ah aq B s A (aiv _) 1 rfl dc).mono (λF aW E=>by have⟨p,ax,ai,ao,ar,am,al⟩:=E;exact⟨p,ax,ai,am,ao,ar,al⟩)) 10 11 dc rfl rfl (fU 0 9 _) (ia 8 _) rfl rfl λF bh bg E=>?_
           |refine b7.two (fk:=[.agg (jx 13 [] _ (.d .cu) (.d .cu)),kV 1 8 [_],.ms 0 9 0 (j' (D.map pe)+1+1) (j' (D.map pe)+1+1)]) (P:=λF _ _=>∃g,iz (j9 13 [] [Q] [q] _) g/\F=.ret (.agg (g.map V.d))) ((ve 13 [] _ ah aq B s A (aiv _) (j' (D.map pe)+1+1) sm (by simp only[aix,aiA]at R⊢;omega)).mono (λF aW E=>by have⟨p,ax,ai,ao,ar,am,al⟩:=E;exact⟨p,ax,ai,am,ao,ar,al⟩)) 10 11 dc (Lm an D (mEl (n.tok a).text (n.tok (a+1)).text o _)) rfl (fU 0 9 _) (ia 8 _) rfl rfl λF bh bg E=>?_
          obtain⟨g,l,rfl⟩:=E;obtain⟨J,aY,ba,K,t,m,L,O,rfl⟩:=l.eight;refine a8 1 (eL (by rw[c];rfl) l)
         rw[W' (by rw[P];decide)]at c r;intro bf;refine iZ M [44] ab bf _ 0 ?_ (λak aD=>?_) (λak bc=>?_)
         ·exact Z
         ·rw[yq ak]at r;refine⟨(q1+1,_,_),⟨by show p<=q1+1;omega,aD,by simp only[aiy,aix,aiB]at R⊢;omega,B,s,A,N,by show (j' n.ts)-(q1+1)<=N;omega,r⟩,by show (j' n.ts)-(q1+1)<j' n.ts-a;omega,.pick 8 [0,1,2,3,4,5,6,7,10] ⟨Z,Z,Z,Z,tv⟩ Z Z Z Z Z dc ⟨Z,Z,Z,Z,Z,Z,Z,Z,Z,Z,by first|exact BA (mEl (n.tok a).text (n.tok (a+1)).text o _) rfl|exact yn an D (mEl (n.tok a).text (n.tok (a+1)).text o _) rfl,E2 _ Z,Ur G ⟨(n.tok a).text,(n.tok (a+1)).text,cY,B',[aQ]⟩,nM _ _ (ko _),Z,Z,by first|exact BB (mEl (n.tok a).text (n.tok (a+1)).text o _)|exact yo an D (mEl (n.tok a).text (n.tok (a+1)).text o _),iE _ _ _,tv⟩,Z,Z⟩
         refine a8 1 (cZ (by rw[c];simp only[cw,ak,b_,ais,PR.map]))
       refine a8 1 (cZ (by rw[c];simp only[fX,eg,dp,j,i,ne_eq,not_true,b_,d,eV,cw,I,c_,H,PR.map]))
      refine a8 1 (cZ (by rw[c];simp only[fX,eg,dp,j,i,ne_eq,not_true,b_,d,eV,cw,I,ais,PR.map]))
     refine a8 1 (cZ (by rw[c];simp only[fX,eg,dp,j,i,ne_eq,not_true,not_false_eq_true,b_,d,c_,PR.map]))
    ·refine a8 1 (cZ (by rw[c];simp only[fX,eg,j,ne_eq,not_true,b_,d,c_,PR.map]))
    refine a8 1 (cZ (by rw[c];simp only[fX,eg,j,ne_eq,not_false_eq_true,c_,PR.map]))
   refine a8 1 (cZ (by simp only[lD,x,h,cw,ap,b_,ais]))
  refine a8 1 (cZ (by simp only[lD,x,h]))
 refine a8 1 (cZ (by simp only[lD,x]))
end Go.Proofs.YtdocmpeionacbaaGreatDoor
