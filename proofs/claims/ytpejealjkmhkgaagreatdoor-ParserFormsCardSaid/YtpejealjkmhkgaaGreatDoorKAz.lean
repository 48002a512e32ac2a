/- Part of the proof. -/
import Derived.Test.YtpejealjkmhkgaaGreatDoorKAy
set_option linter.all false
set_option maxHeartbeats 16000000
set_option maxRecDepth 100000
open List renaming getElem?_eq_getElem->abK,take_append_drop->aet,getElem?_eq_some_iff->aeu,append_assoc->aev,pairwise_cons->aeM,getElem?_of_mem->aeN,map_cons->aeO,length_append->aeP,mem_cons->aeR,set_append_right->aeS,pairwise_append->aeT,mem_map->aeV,map->aeW,mem_append->aeX,getElem?_append_right->aeY,drop_eq_getElem_cons->aeZ,take_of_length_le->ae1,drop_of_length_le->ae2,map_map->ae4,map_congr_left->ae5,set_cons_zero->ae6,getElem?_take->ae7,getElem?_drop->ae8
open Int renaming ofNat->abL
open Bool renaming eq_false_iff->aeQ
open Nat renaming le_refl->aeU,beq->ae0,sub_self->ae3
namespace Go.Proofs.YtpejealjkmhkgaaGreatDoor
open Go.AM Go.VM
inductive Ty where
 |mk (kind:Nat) (mod name:cq) (args:List Ty) (fields:List (cq×Ty×Bool))
mutual
inductive eZ:Ty->cH->Prop
 |mk {k:Nat} {m n:cq} {args:List Ty} {fields:List (cq×Ty×Bool)} {a f:D} (ha:fA args a) (hf:ll fields f):eZ (.mk k m n args fields) [.int .i64 (abL k),.str m,.str n,a,f]
inductive fA:List Ty->D->Prop
 |nil:fA [] .ci
 |ps {b o cap:Nat} {l:List Ty} {els:List cH} (h:dz l els) (BM:els≠[]):fA l (.ps b o 5 cap els)
inductive dz:List Ty->List cH->Prop
 |nil:dz [] []
 |cons {t:Ty} {d:cH} {l:List Ty} {els:List cH} (h:eZ t d) (hl:dz l els):dz (t::l) (d::els)
inductive ll:List (cq×Ty×Bool)->D->Prop
 |nil:ll [] .ci
 |ps {b o cap:Nat} {l:List (cq×Ty×Bool)} {els:List cH} (h:u5 l els):ll l (.ps b o 7 cap els)
inductive u5:List (cq×Ty×Bool)->List cH->Prop
 |nil:u5 [] []
 |cons {n:cq} {t:Ty} {o:Bool} {d:cH} {l:List (cq×Ty×Bool)} {els:List cH} (h:eZ t d) (hl:u5 l els):u5 ((n,t,o)::l) ((.str n::d++[.bool o])::els)
end
theorem dz.snoc{l:List Ty}{a:List cH}{t:Ty}{f:cH}(g:dz l a)(e:eZ t f):dz (l++[t]) (a++[f]):=by
 induction l generalizing a with
 |nil=>cases g;exact .cons e .nil
 |cons h l b=>cases g with|cons d c=>exact .cons d (b c)
theorem eZ.cZ{t:Ty}{a:cH}(e:eZ t a):∃g h d i b,a=[.int .i64 (abL g),.str h,.str d,i,b]:=by
 cases e with|mk f c=>exact⟨_,_,_,_,_,rfl⟩
structure ef (ty:Nat->PR Ty) (R:Rd) (lo:Nat):Prop where
 lt:∀p t q,lo<=p->p<R.ts.length->ty p=.ok t q->p<q/\q<R.ts.length
 call:∀p,lo<=p->p<R.ts.length->∀(i:Nat) (σ:VS) (K:cO->VS->Prop),nth σ i=some (dp R p)->(∀t d q,ty p=.ok t q->eZ t d->K (.ret (.agg (d.map V.d))) (σ.set i (dp R q)))->
  (∀off e q,ty p=.bad off e->K (.eH (dt off e)) (σ.set i (dp R q)))->bV C ca dj [.bp i 0] σ K
def ey(b:Nat->PR Ty)(g:Rd):Nat->List Ty->Nat->PR (List Ty)
 |0,_,_=>.bad 0 3
 |f+1,a,j=>match b j with
  |.bad e c=>.bad e c
  |.ok i d=>if c5 (g.tok d) [44]then ey b g f (a++[i]) (d+1)else match cu g [[93]] d with
   |.ok _ h=>.ok (a++[i]) h
   |.bad e c=>.bad e c
def jV(b:Nat->PR Ty)(a:Rd)(p:Nat):PR (List Ty):=if c5 (a.tok p) [91]then ey b a a.ts.length [] (p+1)else .ok [] p
def adK(b:Rd)(p:Nat):List cH->VS
 |[]=>[dp b p,.box [.bp 0 0],.box [.d .ci]]
 |e::a=>[dp b p,.box [.bp 0 0],.box [.ms 3 5 0 (a.length+1) (a.length+1)],.row 5 ((e::a).map fun c=>c.map V.d)]
def tX:List V:=[.d (.int .i64 0),.d (.str []),.d (.str []),.d .ci,.d .ci]
def aaO:Nat->Bool:=fun a=>ae0 a 5||ae0 a 13
def ZJ:Nat->Bool:=fun a=>ae0 a 6
theorem Hv{a n c:Nat}(e:c<=a)(b:a<4294967296)(d:n=1):(c+n)*88<=fy/\c+n<=fy:=by
 unfold fy;omega
theorem Tt(a:cH):sq (a.map V.d)=some a:=by
 induction a with
 |nil=>rfl
 |cons c a b=>simp only[aeO,sq,b]
theorem gk(a:List cH):qC (a.map fun c=>c.map V.d)=some a:=by
 induction a with
 |nil=>rfl
 |cons e d b=>simp only[aeO,qC,Tt,b]
def JN(f:Rd)(h:PR (List Ty))(e:cO)(a:VS):Prop:=match h with
 |.ok i c=>a=[dp f c]/\∃d,fA i d/\e=.ret (.d d)
 |.bad b g=>∃c,a=[dp f c]/\e=.eH (dt b g)
theorem JO{f:Rd}{d:Nat}{a:VS}{l:List Ty}{els:List cH}{j:PR (List Ty)}(i n:Nat)(hn:n=els.length)(e:nth a i=some (.row 5 (els.map fun k=>k.map V.d)))(g:dz l els)(c:els≠[])(h:j=.ok l d):
  cU 1 (.ret (.ms (i+1) 5 0 n n)) (dp f d::a) (JN f j):=by
 subst h;refine cU.freeze (i+1) (es:=5) (l:=els) e (gk els) (fun _=>⟨Z,by simp[hn]⟩) (fun b=>?_);have o:wq (i+1) b els (.ret (.ms (i+1) 5 0 n n))=.ret (.d (.ps b (0*5) 5 n els)):=by
  exact Zg
 rw[o];refine cU.drop 1 Z (by show(fW 1 (dp f d)&&mJ 1 (a.set i .gone) 0)=true;rw[mJ];rfl) Z (cU.now Z ?_);exact⟨Z,_,.ps g c,Z⟩
theorem Tu(b:Nat->Nat)(a:cH):hU b (a.map V.d)=a.map V.d:=by
 induction a with
 |nil=>rfl
 |cons d a c=>simp only[aeO,hU,gW,c]
theorem qW(c:Nat)(a:cH):fu c (a.map V.d)=true:=by
 induction a with
 |nil=>rfl
 |cons d a b=>simp only[aeO,fu,bd,b];rfl
theorem sM(c:Nat->Nat)(es:Nat)(a:List cH):dF c (.row es (a.map fun b=>b.map V.d))=.row es (a.map fun b=>b.map V.d):=by
 simp only[dF,ae4];congr 1;exact ae5 fun b _=>Tu c b
theorem jv(c es:Nat)(a:List cH):fW c (.row es (a.map fun b=>b.map V.d))=true:=by
 simp only[fW,List.all_eq_true,aeV];rintro _ ⟨b,_,rfl⟩;exact qW c b
theorem Wn(c es:Nat)(a:List cH)(b:cH):some (cN.box [.ms c es 0 (a.length+1+1) (a.length+1+1)])=some (cN.box [.ms c es 0 ((a++[b]).length+1) ((a++[b]).length+1)]):=by simp
theorem RV(a:List cH):a.length+1<a.length+1+1:=Nat.lt_succ_self _
theorem Is(a:cH)(b:List cH):nth (List.take (b.length+1) (List.drop 0 (aeW (fun c=>aeW V.d c) (a::b)))++[tX]) (0+(b.length+1))=some tX:=by
 rw[ck,aeY sm];simp
theorem Sj(b:cH)(c:List cH)(a:cH):(List.take (c.length+1) (List.drop 0 (aeW (fun a=>aeW V.d a) (b::c)))++[tX]).set (0+(c.length+1)) (a.map V.d)=aeW (fun a=>aeW V.d a) (b::(c++[a])):=by
 exact aeH
theorem Mq(R:Rd)(y:R.Wf)(ty:Nat->PR Ty)(p:Nat)(w:p<R.ts.length)(u:ef ty R p):
  bV C ca wU [.bp 0 0] [dp R p] (JN R (jV ty R p)):=by
 have D:=y.len;refine cm ?_;refine qV R p (R.tok p) [91] (bY w) 0 Z ?_;apply aZ<;>intro A
 ·have E:=y.step w A;refine bV.body aaO (fun _=>Z) ?_;intro K;refine ep R y [[91]] dc p w _ _ 0 Z ?_;rw[cu,if_pos A,cu];refine cD (dB:=[(0,.bp 0 0),(1,.fn tr [] [.bp 2 0,.bp 1 0])]) ?_;refine cd.iter (fun _:Nat×List Ty×List cH=>[(0,.bp 0 0),(1,.fn tr [] [.bp 2 0,.bp 1 0])]) (fun x=>adK R x.1 x.2.2) (fun x=>R.ts.length-x.1)
   (fun x=>p<x.1/\x.1<R.ts.length/\x.2.2.length<=x.1/\dz x.2.1 x.2.2/\∃f,R.ts.length-x.1<=f/\ey ty R R.ts.length [] (p+1)=ey ty R f x.2.1 x.1) ?_ (p+1,[],[]) ⟨by show p<p+1;omega,E,Nat.zero_le _,.nil,_,by show R.ts.length-(p+1)<=R.ts.length;omega,rfl⟩
  rintro⟨i,l,b⟩ ⟨v,g,s,h,f,z,he⟩;have v:p<i:=v;have g:i<R.ts.length:=g;have s:b.length<=i:=s;have h:dz l b:=h;have z:R.ts.length-i<=f:=z;have he:ey ty R R.ts.length [] (p+1)=ey ty R f l i:=he;obtain⟨f,rfl⟩:∃k,f=k+1:=⟨f-1,om⟩;have e:jV ty R p=ey ty R (f+1) l i:=by rw[jV,if_pos A,he]
  rw[ey]at e;cases b with
  |nil=>
   refine bV.body ZJ (fun _=>Z) ?_;intro G;repeat refine ch ?_
   refine u.call i om g 0 _ _ ?_ (fun t J q1 e1 c=>?_) (fun j H q1 e1=>?_)
   ·exact Z
   ·obtain⟨k,m,n,a,fl,rfl⟩:=c.cZ;obtain⟨F,d⟩:=u.lt i t q1 om g e1;repeat first
     |refine bZ rfl ?_
     |refine cf ?_
    refine cc tX Z ?_;refine cI R q1 (R.tok q1) [44] (bY d) om 0 ?_ (fun h2=>?_) (fun h2=>?_)
    ·exact Z
    ·refine⟨(q1+1,l++[t],[[.int .i64 (abL k),.str m,.str n,a,fl]]),⟨by show p<q1+1;omega,y.step d h2,by show 1<=q1+1;omega,h.snoc c,f,by show R.ts.length-(q1+1)<=f;omega,?_⟩,?_,?_,Z,Z⟩
     ·exact ab1
     ·show R.ts.length-(q1+1)<R.ts.length-i;omega
     ·exact .same ⟨Z,Z,tv⟩ Z
    ·intro B;refine ep R y [[93]] dc q1 d _ _ 0 ?_ ?_
     ·exact Z
     ·cases q:cu R [[93]] q1 with
      |ok _ q2=>
       refine JO (l:=l++[t]) (els:=[[.int .i64 (abL k),.str m,.str n,a,fl]]) 2 1 Z Z (h.snoc c) sm ?_;rw[e,e1];simp only[h2,q];rfl
      |bad j H=>
       intro q2;refine a8 1 ?_;rw[e,e1];simp only[h2,q];exact⟨q2,Z,Z⟩
   ·refine a8 1 ?_;rw[e,e1];exact⟨q1,Z,Z⟩
  |cons e0 r=>
   refine bV.body ZJ (fun _=>Z) ?_;intro G;repeat refine ch ?_
   refine u.call i om g 0 _ _ ?_ (fun t J q1 e1 c=>?_) (fun j H q1 e1=>?_)
   ·exact Z
   ·obtain⟨k,m,n,a,fl,rfl⟩:=c.cZ;obtain⟨F,d⟩:=u.lt i t q1 om g e1;have o:r.length+1<=i:=s;refine a6 ?_ ?_
    ·repeat' (first|exact tv|exact rfl|exact aeU _|exact(Hv o om rfl).1|exact(Hv o om rfl).2|(simp only[List.length_map,List.length_cons];omega)|refine bZ rfl ?_|refine And.intro ?_ ?_)
    refine a6 Z (a6 ⟨Z,Z,by simp,aeU _,Hv o om Z⟩ ?_);refine a7 Z (a7 (fG (r.length+1)) ?_);refine a6 ?_ ?_
    ·exact YT
    refine bZ Z ?_;refine a6 (RV r) ?_;refine a6 ?_ ?_
    ·exact YT
    refine cc tX (Is e0 r) ?_;refine cI R q1 (R.tok q1) [44] (bY d) om 0 ?_ (fun h2=>?_) (fun h2=>?_)
    ·exact Z
    ·refine⟨(q1+1,l++[t],e0::(r++[[.int .i64 (abL k),.str m,.str n,a,fl]])),⟨by show p<q1+1;omega,y.step d h2,by show(r++[_]).length+1<=q1+1;simp;omega,h.snoc c,f,by show R.ts.length-(q1+1)<=f;omega,?_⟩,?_,?_,Z,Z⟩
     ·exact ab1
     ·show R.ts.length-(q1+1)<R.ts.length-i;omega
     ·refine .pick 3 [0,1,2,4] ⟨Z,Z,tv⟩ Z Z Z Z Z dc ⟨Z,Z,Z,Z,?_,Z,?_,jv _ _ _,tv⟩
      ·exact Wn 4 5 r [.int .i64 (abL k),.str m,.str n,a,fl]
      ·rw[sM];exact acf
    ·intro B;refine ep R y [[93]] dc q1 d _ _ 0 ?_ ?_
     ·exact Z
     ·cases q:cu R [[93]] q1 with
      |ok _ q2=>
       refine JO (l:=l++[t]) (els:=e0::(r++[[.int .i64 (abL k),.str m,.str n,a,fl]])) 3 (r.length+1+1) sm ?_ (h.snoc c) sm ?_
       ·exact acf
       ·rw[e,e1];simp only[h2,q];rfl
      |bad j H=>
       intro q2;refine a8 1 ?_;rw[e,e1];simp only[h2,q];exact⟨q2,Z,Z⟩
   ·refine a8 1 ?_;rw[e,e1];exact⟨q1,Z,Z⟩
 ·refine a8 1 ?_;rw[jV,if_neg (by rw[A];decide)];exact⟨Z,.ci,.nil,Z⟩
theorem vx(R:Rd)(m:R.Wf)(a:Nat->PR Ty)(p:Nat)(f:p<R.ts.length)(j:ef a R p)(c:Nat){σ:VS}{K:cO->VS->Prop}(b:nth σ c=some (dp R p)) 
  (h1:∀l d q,jV a R p=.ok l q->fA l d->K (.ret (.d d)) (σ.set c (dp R q))) (h2:∀off e q,jV a R p=.bad off e->K (.eH (dt off e)) (σ.set c (dp R q))):bV C ca wU [.bp c 0] σ K:=by
 refine bV.one (dM:=[.bp 0 0]) (P:=fun g i=>JN R (jV a R p) g [.box i]) ((Mq R m a p f j).mono fun g k h=>?_) c b Z Z Z (fun g cs' h=>?_)
 ·have h':=h;unfold JN at h;exact Zt
 ·unfold JN at h;exact Yw
def dO(c:Nat->PR Ty)(d:Rd)(p:Nat):PR Ty:=match cu d [[91]] p with
 |.bad a b=>.bad a b
 |.ok _ e=>match c e with
  |.bad a b=>.bad a b
  |.ok f q1=>match cu d [[93]] q1 with
   |.bad a b=>.bad a b
   |.ok _ q2=>.ok f q2
def B2(f:Rd)(g:PR Ty)(e:cO)(b:List V):Prop:=match g with
 |.ok h c=>b=xa f c/\∃d,eZ h d/\e=.ret (.agg (d.map V.d))
 |.bad a i=>∃c,b=xa f c/\e=.eH (dt a i)
def adL:Nat->Bool:=fun a=>ae0 a 5||ae0 a 10
theorem cL{f:Rd}:∀(b:List cq) (d c:Nat),cu f b d=.ok () c->c=d+b.length:=by
 intro b;induction b with
 |nil=>intro d c a;cases a;rfl
 |cons s b e=>
  intro d c a;rw[cu]at a;split at a
  ·rw[e _ _ a,List.length_cons];omega
  ·cases a
theorem ER(e:Rd)(q:e.Wf)(l:Nat->PR Ty)(p:Nat)(k:p<e.ts.length)(i:ef l e p):
  bV C ca rX [.bp 0 0] [dp e p] fun r m=>∃c,m=[.box c]/\cM r=true/\fu 0 c=true/\B2 e (dO l e p) r c:=by
 refine cv adL (fun _=>Z) ?_;intro B;refine ep e q [[91]] dc p k _ _ 0 Z ?_;cases b:cu e [[91]] p with
 |bad f s=>
  intro n;refine a8 1 ⟨_,Z,Z,Z,?_⟩;rw[dO,b];exact⟨n,Z,Z⟩
 |ok _ n=>
  have j:=da q _ _ _ k b;have a:=cL _ _ _ b;have a:p<=n:=by rw[a];omega
  refine i.call n a j 0 _ _ ?_ (fun w z q1 d h=>?_) (fun f s q1 d=>?_)
  ·exact Z
  ·obtain⟨y,D,A,x,v,rfl⟩:=h.cZ;obtain⟨u,o⟩:=i.lt n w q1 a j d;intro t;refine ep e q [[93]] dc q1 o _ _ 0 ?_ ?_
   ·exact Z
   ·cases g:cu e [[93]] q1 with
    |bad f s=>
     intro q2;refine a8 1 ⟨_,Z,Z,Z,?_⟩;rw[dO,b];simp only[d,g];exact⟨q2,Z,Z⟩
    |ok _ q2=>
     refine a8 1 ⟨_,Z,Z,Z,?_⟩;rw[dO,b];simp only[d,g];exact⟨Z,_,h,Z⟩
  ·refine a8 1 ⟨_,Z,Z,Z,?_⟩;rw[dO,b];simp only[d];exact⟨q1,Z,Z⟩
end Go.Proofs.YtpejealjkmhkgaaGreatDoor
namespace Go.VM
open Go.AM
theorem y8{a b:UInt8}{f e:cq}:cE (a::f) (b::e)=true↔a.toNat<b.toNat∨(a=b/\cE f e=true):=by
 simp only[cE];rcases Nat.lt_trichotomy a.toNat b.toNat with h|h|h
 ·have:Nat.blt a.toNat b.toNat=true:=by simpa [Nat.blt_eq]using h
  simp only[this,true_iff];exact .inl h
 ·have i:a=b:=UInt8.toNat_inj.1 h;subst i;have:Nat.blt a.toNat a.toNat=false:=by rw[aeQ];intro h;rw[Nat.blt_eq]at h;omega
  simp only[this,Nat.beq_refl,Nat.lt_irrefl,false_or,true_and]
 ·have d:Nat.blt a.toNat b.toNat=false:=by rw[aeQ];intro h;rw[Nat.blt_eq]at h;omega
  have c:ae0 a.toNat b.toNat=false:=by rw[aeQ];intro h;rw[Nat.beq_eq]at h;omega
  simp only[d,c];constructor
  ·intro h;cases h
  ·rintro(g|⟨rfl,_⟩)
   ·omega
   ·omega
theorem Mr:∀a:cq,cE a a=false:=by
 intro a;induction a with
 |nil=>rfl
 |cons d a c=>
  rw[aeQ];intro b;rcases y8.1 b with b|⟨_,b⟩
  ·omega
  ·rw[c]at b;cases b
theorem u6:∀e d c:cq,cE e d=true->cE d c=true->cE e c=true:=by
 intro e;induction e with
 |nil=>
  intro d c b a;cases c with
  |nil=>cases d<;>cases a
  |cons c g=>rfl
 |cons i e f=>
  intro d c b a;cases d with
  |nil=>cases b
  |cons h d=>
   cases c with
   |nil=>cases a
   |cons g c=>
    rw[y8]at b a⊢;rcases b with b|⟨rfl,b⟩<;>rcases a with a|⟨rfl,a⟩
    ·exact .inl om
    ·exact .inl b
    ·exact .inl a
    ·exact .inr ⟨Z,f _ _ b a⟩
theorem y9:∀c a:cq,cE c a=false->c≠a->cE a c=true:=by
 intro c;induction c with
 |nil=>
  intro a b d;cases a with
  |nil=>exact absurd rfl d
  |cons e a=>cases b
 |cons g c i=>
  intro a b d;cases a with
  |nil=>rfl
  |cons e a=>
   rw[y8];have f:¬(g.toNat<e.toNat∨(g=e/\cE c a=true)):=fun j=>by rw[y8.2 j]at b;cases b
   by_cases h:g=e
   ·subst h;refine .inr ⟨Z,i a ?_ (fun h=>d (by rw[h]))⟩;cases k:cE c a with
    |false=>rfl
    |true=>exact absurd (.inr ⟨rfl,k⟩) f
   ·have:g.toNat≠e.toNat:=fun j=>h (UInt8.toNat_inj.1 j);exact .inl om
section
variable{α:Type} {key:α->cq}
def mw(key:α->cq)(l:List α):Prop:=l.Pairwise fun a b=>cE (key a) (key b)=true
theorem mw.I2:∀{b a:List α},b.Perm a->mw key b->mw key a->b=a:=by
 intro b;induction b with
 |nil=>intro a e _ _;exact e.nil_eq
 |cons i n k=>
  intro a e m l;cases a with
  |nil=>exact absurd e.symm.nil_eq sm
  |cons h j=>
   have c:=aeM.1 m;have d:=aeM.1 l;have g:i=h:=by
    have m1:i∈h::j:=e.subset sm;have m2:h∈i::n:=e.symm.subset sm;rcases aeR.1 m1 with g|m1
    ·exact g
    ·rcases aeR.1 m2 with g|m2
     ·exact g.symm
     ·have f:=u6 _ _ _ (c.1 h m2) (d.1 i m1);rw[Mr]at f;cases f
   subst g;rw[k e.cons_inv c.2 d.2]
def sN(key:α->cq)(a:α):List α->List α
 |[]=>[a]
 |x::b=>if cE (key x) (key a)then x::sN key a b else a::x::b
def cG(key:α->cq)(l:List α):List α:=l.foldl (fun a b=>sN key b a) []
theorem Aq(c:α):∀a:List α,(sN key c a).Perm (c::a):=by
 intro a;induction a with
 |nil=>exact .refl _
 |cons d e b=>
  simp only[sN];split
  ·exact(b.cons d).trans (.swap c d e)
  ·exact .refl _
theorem Tv{i:α}:∀{g:List α},mw key g->(∀h∈g,key h≠key i)->mw key (sN key i g):=by
 intro g;induction g with
 |nil=>intro _ _;exact List.pairwise_singleton _ _
 |cons h l j=>
  intro k e;have c:=aeM.1 k;simp only[sN];split
  ·rename_i d;refine aeM.2 ⟨fun f a=>?_,j c.2 (fun f a=>e f (by simp[a]))⟩;rcases aeR.1 ((Aq i l).subset a)with rfl|a
   ·exact d
   ·exact c.1 f a
  ·rename_i d;have b:cE (key i) (key h)=true:=y9 _ _ (by simpa using d) (e h sm);refine aeM.2 ⟨fun f a=>?_,k⟩;rcases aeR.1 a with rfl|a
   ·exact b
   ·exact u6 _ _ _ b (c.1 f a)
theorem Hw:∀(c b:List α),(c.foldl (fun b d=>sN key d b) b).Perm (b++c):=by
 intro c;induction c with
 |nil=>intro b;simp
 |cons d c e=>
  intro b;refine(e _).trans ?_;refine((Aq d b).append_right c).trans ?_;exact(List.perm_middle (l₁:=b) (l₂:=c) (a:=d)).symm
theorem JP:∀(c b:List α),mw key b->((b++c).map key).Nodup->mw key (c.foldl (fun b d=>sN key d b) b):=by
 intro c;induction c with
 |nil=>intro b h _;exact h
 |cons d c g=>
  intro b h e;refine g _ (Tv h fun k j i=>?_) ?_
  ·rw[List.map_append,List.nodup_append]at e;exact e.2.2 (key k) (aeV.2 ⟨k,j,Z⟩) (key d) sm i
  ·have f:(b++d::c).Perm (sN key d b++c):=(List.perm_middle (l₁:=b) (l₂:=c) (a:=d)).trans ((Aq d b).symm.append_right c);exact(f.map key).nodup_iff.1 e
theorem dE(l:List α):(cG key l).Perm l:=Hw (key:=key) l []
theorem iG{l:List α}(a:(l.map key).Nodup):mw key (cG key l):=JP l [] List.Pairwise.nil (by simpa using a)
theorem A8{l b:List α}(d:(l.map key).Nodup)(a:b.Perm l)(c:mw key b):b=cG key l:=
 mw.I2 (a.trans (dE l).symm) c (iG d)
theorem mw.px{l:List α}(j:mw key l){e h:Nat}{i b:α}(c:l[e]?=some i)(g:l[h]?=some b)(a:e<h):cE (key i) (key b)=true:=by
 obtain⟨f,rfl⟩:=aeu.1 c;obtain⟨d,rfl⟩:=aeu.1 g;exact(List.pairwise_iff_getElem.1 j) e h f d a
theorem mw.le_of_le{l:List α}(h:mw key l){d e:Nat}{f b:α}(c:l[d]?=some f)(a:l[e]?=some b)(g:d<=e):f=b∨cE (key f) (key b)=true:=by
 rcases Nat.lt_or_ge d e with h1|h1
 ·exact .inr (h.px c a h1)
 ·obtain rfl:d=e:=om;rw[c]at a;cases a;exact .inl rfl
theorem FG{g b c f:α}(h1:g=b∨cE (key g) (key b)=true)(d:cE (key b) (key c)=true)(a:c=f∨cE (key c) (key f)=true):cE (key g) (key f)=true:=by
 have e:cE (key b) (key f)=true:=by
  rcases a with rfl|a
  ·exact d
  ·exact u6 _ _ _ d a
 rcases h1 with rfl|h1
 ·exact e
 ·exact u6 _ _ _ h1 e
theorem aaP{j k:List α}(o:mw key j)(n:mw key k)(s t:Nat)(x:s<=j.length)(w:t<=k.length) 
  (u:∀d m,0<s->j[s-1]?=some d->k[t]?=some m->cE (key d) (key m)=true)
  (r:∀d m,0<t->k[t-1]?=some d->j[s]?=some m->cE (key d) (key m)=true):
  ∀d∈j.take s++k.take t,∀m∈j.drop s++k.drop t,cE (key d) (key m)=true:=by
 intro d b m a;have f:∀{p:List α} {l:Nat} {d:α},d∈p.take l->∃i,i<l/\p[i]?=some d:=by
  intro p l d v;obtain⟨i,c⟩:=aeN v;rw[ae7]at c;split at c
  ·exact⟨i,by assumption,c⟩
  ·cases c
 have e:∀{p:List α} {l:Nat} {d:α},d∈p.drop l->∃i,l<=i/\p[i]?=some d:=by
  intro p l d v;obtain⟨i,c⟩:=aeN v;rw[ae8]at c;exact⟨l+i,om,c⟩
 rcases aeX.1 b with b|b<;>rcases aeX.1 a with a|a<;>obtain⟨i,c,b⟩:=f b<;>obtain⟨y,q,a⟩:=e a
 ·exact o.px b a om
 ·have g:s-1<j.length:=om;have h:t<k.length:=by
   have:=(aeu.1 a).1;omega
  exact FG (o.le_of_le b (abK g) om) (u _ _ om (abK g) (abK h)) (n.le_of_le (abK h) a q)
 ·have g:t-1<k.length:=om;have h:s<j.length:=by
   have:=(aeu.1 a).1;omega
  exact FG (n.le_of_le b (abK g) om) (r _ _ om (abK g) (abK h)) (o.le_of_le (abK h) a q)
 ·exact n.px b a om
theorem mw.take{l:List α}(a:mw key l)(n:Nat):mw key (l.take n):=List.Pairwise.sublist (List.take_sublist n l) a
theorem mw.drop{l:List α}(a:mw key l)(n:Nat):mw key (l.drop n):=List.Pairwise.sublist (List.drop_sublist n l) a
theorem Tw{b a c d:List α}(j:mw key b)(g:mw key a)(e:b.Perm c)(h:a.Perm d)(m:∀k∈c,∀i∈d,cE (key k) (key i)=true):mw key (b++a):=
 aeT.2 ⟨j,g,fun k f i l=>m k (e.subset f) i (h.subset l)⟩
theorem JQ(b a:List α)(s t:Nat):((b.take s++a.take t)++(b.drop s++a.drop t)).Perm (b++a):=by
 have c:b++a=b.take s++(b.drop s++(a.take t++a.drop t)):=by rw[aet,<-aev,aet]
 rw[c,aev];refine List.Perm.append_left _ ?_;rw[<-aev,<-aev];exact List.Perm.append_right _ List.perm_append_comm
end
end Go.VM
namespace Go.Proofs.YtpejealjkmhkgaaGreatDoor
open Go.AM Go.VM
abbrev oG:=cq×Ty×Bool
structure FE where
 n:cq
 k:Nat
 m:cq
 nm:cq
 a:D
 f:D
 o:Bool
 v:cq
 w:D
def FE.ty(a:FE):cH:=[.int .i64 (abL a.k),.str a.m,.str a.nm,a.a,a.f]
def fe(a:FE):cH:=[.str a.n,.int .i64 (abL a.k),.str a.m,.str a.nm,a.a,a.f,.bool a.o]
def rows(xs:List FE):List (List V):=(xs.map fe).map fun a=>a.map V.d
def fw(a:FE):V:=.agg [.d (.str a.n),.d (.int .i64 (abL a.k)),.d (.str a.m),.d (.str a.nm),.d a.a,.d a.f,.d (.bool a.o)]
def pe(a:FE):cH:=[.str a.n,.str a.v,.int .i64 (abL a.k),.str a.m,.str a.nm,a.a,a.f,.bool a.o,a.w]
def pw(a:FE):V:=.agg [.d (.str a.n),.d (.str a.v),.d (.int .i64 (abL a.k)),.d (.str a.m),.d (.str a.nm),.d a.a,.d a.f,.d (.bool a.o),.d a.w]
inductive lW:List oG->List FE->Prop
 |nil:lW [] []
 |cons {t:Ty} {x:FE} {l:List oG} {xs:List FE} (h:eZ t x.ty) (hl:lW l xs):lW ((x.n,t,x.o)::l) (x::xs)
theorem lW.snoc{l:List oG}{xs:List FE}{t:Ty}{x:FE}(e:lW l xs)(d:eZ t x.ty):lW (l++[(x.n,t,x.o)]) (xs++[x]):=by
 induction l generalizing xs with
 |nil=>cases e;exact .cons d .nil
 |cons f l a=>cases e with|cons c b=>exact .cons c (a b)
theorem lW.fls{l:List oG}{xs:List FE}(d:lW l xs):u5 l (xs.map fe):=by
 induction l generalizing xs with
 |nil=>cases d;exact .nil
 |cons e l a=>cases d with|cons c b=>exact .cons c (a b)
theorem lW.names{l:List oG}{xs:List FE}(c:lW l xs):xs.map FE.n=l.map (·.1):=by
 induction l generalizing xs with
 |nil=>cases c;rfl
 |cons e l a=>cases c with|cons d b=>simp only[aeO,a b]
theorem lW.len{l:List oG}{xs:List FE}(a:lW l xs):xs.length=l.length:=by
 have:=congrArg List.length a.names;simpa using this
theorem lW.ins{l:List oG}{xs:List FE}{t:Ty}{d:FE}(f:lW l xs)(c:eZ t d.ty):lW (sN (·.1) (d.n,t,d.o) l) (sN FE.n d xs):=by
 induction l generalizing xs with
 |nil=>cases f;exact .cons c .nil
 |cons g l e=>
  cases f with
  |cons b a=>
   simp only[sN];split
   ·exact .cons b (e a)
   ·exact .cons c (.cons b a)
theorem lW.JR{l:List oG}{xs:List FE}(d:lW l xs):lW (cG (·.1) l) (cG FE.n xs):=by
 have:∀{l:List oG} {xs:List FE} {e:List oG} {b:List FE},lW l xs->lW e b->lW (l.foldl (fun a i=>sN (·.1) i a) e) (xs.foldl (fun a i=>sN FE.n i a) b):=by
  intro l;induction l with
  |nil=>intro xs e b d c;cases d;exact c
  |cons k l f=>
   intro xs e b d c;cases d with
   |cons h g=>have j:=f g (c.ins h);exact j
 exact this d .nil
structure hZ where
 n:cq
 v:cq
 ty:Ty
 tV:Bool
inductive Ex where
 |mk (k:Nat) (m n x:cq) (num:Int) (types:List Ty) (labels:List hZ) (kids:List Ex)
def Ms(l:hZ)(a:cH):cH:=.str l.n:: .str l.v::(a++[.bool l.tV])
inductive qi:List hZ->List cH->Prop
 |nil:qi [] []
 |cons {l:hZ} {d:cH} {ls:List hZ} {els:List cH} (h:eZ l.ty d) (hl:qi ls els):qi (l::ls) (Ms l d::els)
inductive eR:List hZ->D->Prop
 |nil:eR [] .ci
 |ps {b o cap:Nat} {l:List hZ} {els:List cH} (h:qi l els):eR l (.ps b o 8 cap els)
mutual
inductive je:Ex->cH->Prop
 |mk {k:Nat} {m n x:cq} {num:Int} {types:List Ty} {labels:List hZ} {kids:List Ex} {ty lb kd:D} (ht:fA types ty) (hl:eR labels lb) (hk:fR kids kd):
   je (.mk k m n x num types labels kids) [.int .i64 (abL k),.str m,.str n,.str x,.int .i64 num,ty,lb,kd]
inductive fR:List Ex->D->Prop
 |nil:fR [] .ci
 |ps {b o cap:Nat} {l:List Ex} {els:List cH} (h:jt l els):fR l (.ps b o 8 cap els)
inductive jt:List Ex->List cH->Prop
 |nil:jt [] []
 |cons {e:Ex} {d:cH} {l:List Ex} {els:List cH} (h:je e d) (hl:jt l els):jt (e::l) (d::els)
end
theorem jt.snoc{l:List Ex}{a:List cH}{h:Ex}{f:cH}(g:jt l a)(b:je h f):jt (l++[h]) (a++[f]):=by
 induction l generalizing a with
 |nil=>cases g;exact .cons b .nil
 |cons i l c=>cases g with|cons e d=>exact .cons e (c d)
theorem jt.P9{l b:List Ex}{els a:List cH}(h:jt l els)(h':jt b a):jt (l++b) (els++a):=by
 exact abR
theorem jt.len{l:List Ex}{els:List cH}(h:jt l els):els.length=l.length:=by
 exact RZ
theorem qi.snoc{l:List hZ}{a:List cH}{f:hZ}{g:cH}(h:qi l a)(b:eZ f.ty g):qi (l++[f]) (a++[Ms f g]):=by
 induction l generalizing a with
 |nil=>cases h;exact .cons b .nil
 |cons x l c=>cases h with|cons e d=>exact .cons e (c d)
theorem qi.len{l:List hZ}{els:List cH}(h:qi l els):els.length=l.length:=by
 exact RZ
theorem eR.inv{l:List hZ}{b:D}(h:eR l b):(l=[]/\b=.ci)∨∃c e d a,b=.ps c e 8 d a/\qi l a:=by
 exact XM
theorem fR.inv{l:List Ex}{b:D}(h:fR l b):(l=[]/\b=.ci)∨∃c e d a,b=.ps c e 8 d a/\jt l a:=by
 exact XM
theorem je.eight{k:Ex}{e:cH}(h:je k e):∃i j g f a c d b,e=[.int .i64 (abL i),.str j,.str g,.str f,.int .i64 a,c,d,b]:=by
 cases h with|mk _ _ _=>exact⟨_,_,_,_,_,_,_,_,rfl⟩
structure eo where
 n:cq
 v:cq
 ty:Ty
 tV:Bool
 val:List Ex
def eo.FH(p:eo):hZ:=⟨p.n,p.v,p.ty,p.tV⟩
inductive kI:List eo->List FE->Prop
 |nil:kI [] []
 |cons {p:eo} {x:FE} {l:List eo} {xs:List FE} (hn:p.n=x.n) (hv:p.v=x.v) (ho:p.tV=x.o) (ht:eZ p.ty x.ty) (hw:fR p.val x.w) (hl:kI l xs):kI (p::l) (x::xs)
theorem kI.snoc{l:List eo}{xs:List FE}{p:eo}{x:FE}(n:kI l xs)(m:p.n=x.n)(d:p.v=x.v)(c:p.tV=x.o)(j:eZ p.ty x.ty)(a:fR p.val x.w):kI (l++[p]) (xs++[x]):=by
 induction l generalizing xs with
 |nil=>cases n;exact .cons m d c j a .nil
 |cons o l e=>cases n with|cons h f k g i b=>exact .cons h f k g i (e b)
theorem kI.names{l:List eo}{xs:List FE}(d:kI l xs):xs.map FE.n=l.map eo.n:=by
 induction l generalizing xs with
 |nil=>cases d;rfl
 |cons i l b=>cases d with|cons c e h f g a=>simp[b a,c]
theorem kI.len{l:List eo}{xs:List FE}(a:kI l xs):xs.length=l.length:=by
 have:=congrArg List.length a.names;simpa using this
theorem kI.ins{l:List eo}{xs:List FE}{p:eo}{c:FE}(o:kI l xs)(b:p.n=c.n)(g:p.v=c.v)(f:p.tV=c.o)(k:eZ p.ty c.ty)(d:fR p.val c.w):kI (sN eo.n p l) (sN FE.n c xs):=by
 induction l generalizing xs with
 |nil=>cases o;exact .cons b g f k d .nil
 |cons q l n=>
  cases o with
  |cons a h m i j e=>
   simp only[sN];rw[b,a];split
   ·exact .cons a h m i j (n e)
   ·exact .cons b g f k d (.cons a h m i j e)
theorem kI.JR:∀{d:List eo} {a:List FE},kI d a->kI (cG eo.n d) (cG FE.n a):=by
 have key:∀(d:List eo) (a:List FE) (g:List eo) (f:List FE),kI d a->kI g f->kI (d.foldl (fun c o=>sN eo.n o c) g) (a.foldl (fun c o=>sN FE.n o c) f):=by
  intro d;induction d with
  |nil=>intro a g f e b;cases e;exact b
  |cons p d i=>
   intro a g f e b;cases e with
   |cons l j n k m h=>
    simp only[List.foldl_cons];exact i _ _ _ h (b.ins l j n k m)
 intro d a e;exact key d a [] [] e .nil
theorem kI.get{l:List eo}{xs:List FE}(n:kI l xs){i:Nat}(b:i<l.length):∃a,xs[i]?=some a/\l[i].n=a.n/\l[i].v=a.v/\l[i].tV=a.o/\eZ l[i].ty a.ty/\fR l[i].val a.w:=by
 induction l generalizing xs i with
 |nil=>simp at b
 |cons o l e=>
  cases n with
  |cons h f m g k c=>
   cases i with
   |zero=>exact⟨_,rfl,h,f,m,g,k⟩
   |succ i=>
    obtain⟨a,d,j⟩:=e c (i:=i) (by simpa using b);exact⟨a,by simpa using d,by simpa using j⟩
def kq(b:Nat)(n:cq)(types:List Ty)(a:List Ex)(l:List eo):Ex:=.mk b [] n [] 0 types ((cG eo.n l).map eo.FH) (a++(cG eo.n l).flatMap eo.val)
end Go.Proofs.YtpejealjkmhkgaaGreatDoor
namespace Go.VM
open Go.AM
section
variable{α:Type} {key:α->cq}
theorem Hx(a b h:List α)(d c:α)(g i:Nat)(f:g=a.length)(e:i=a.length+1+b.length):((a++d::(b++c::h)).set g c).set i d=a++c::(b++d::h):=by
 subst f;subst e;rw[aeS _ _ (aeU _),ae3,ae6,aeS _ _ om];rw[show a.length+1+b.length-a.length=b.length+1 from om,List.set_cons_succ,aeS _ _ (aeU _),ae3,ae6]
theorem JS(a d g:List α)(c b:α)(f h:Nat)(i:f=a.length)(e:h=a.length+1+d.length):((a++c::(d++b::g)).set h c).set f b=a++b::(d++c::g):=by
 rw[List.set_comm _ _ om,Hx a d g c b f h i e]
theorem sO(c e:List α)(b:α)(d:Nat)(a:d=c.length):(c++b::e)[d]?=some b:=by
 subst a;rw[aeY (aeU _),ae3,List.getElem?_cons_zero]
theorem za(b c f:List α)(e a:α)(d:Nat)(g:d=b.length+1+c.length):(b++e::(c++a::f))[d]?=some a:=by
 have:=sO (b++e::c) f a d (by simp;omega);simpa using this
theorem Mt(l:List α)(n:Nat)(b:n<=l.length):∃a c,l=a++c/\a.length=n:=
 ⟨l.take n,l.drop n,(aet n l).symm,by simp[b]⟩
theorem Tx(l:List α)(d:0<l.length):∃a b,l=a++[b]:=by
 rcases List.eq_nil_or_concat l with c|⟨a,b,c⟩
 ·subst c;simp at d
 ·exact⟨a,b,by simpa using c⟩
theorem FJ(l:List α)(c:0<l.length):∃b a,l=b::a:=by
 cases l with
 |nil=>simp at c
 |cons b a=>exact⟨b,a,rfl⟩
theorem JT{b a:List α}{i:α}(d:mw key (b++a))(h:∀f∈b,cE (key f) (key i)=true)(g:∀f∈a,cE (key i) (key f)=true):mw key (b++i::a):=by
 unfold mw at d⊢;rw[aeT]at d⊢;refine⟨d.1,aeM.2 ⟨g,d.2.1⟩,fun j e k c=>?_⟩;rcases aeR.1 c with rfl|c
 ·exact h j e
 ·exact d.2.2 j e k c
theorem Tz{f:List α}{c g:α}(e:mw key (f++[c]))(b:cE (key c) (key g)=true):∀d∈f++[c],cE (key d) (key g)=true:=by
 intro d a;unfold mw at e;rw[aeT]at e;rcases aeX.1 a with a|a
 ·exact u6 _ _ _ (e.2.2 d a c sm) b
 ·simp at a;subst a;exact b
theorem JU(b a:List α)(c:α):(b++c::a).Perm ((b++a)++[c]):=
 List.perm_middle.trans (List.perm_append_singleton c (b++a)).symm
theorem nx(l:List α):(cG key l).length=l.length:=(dE l).length_eq
theorem ny{l b:List α}(d:(l.map key).Nodup)(a:b.Perm l)(c:mw key b):cG key l=b:=(A8 d a c).symm
theorem xH{l b:List α}(a:b.Perm l)(c:(l.map key).Nodup):(b.map key).Nodup:=((a.map key).nodup_iff).2 c
theorem Oh{b:List α}{l:α}(m:mw key b)(e:Nat)(n:e<=b.length)(f:∀i,0<e->b[e-1]?=some i->cE (key i) (key l)=true):∀j∈b.take e,cE (key j) (key l)=true:=by
 intro j h;obtain⟨o,a⟩:=aeN h;rw[ae7]at a;split at a
 ·rename_i k;have c:e-1<b.length:=om;have d:=f _ om (abK c);rcases m.le_of_le a (abK c) om with rfl|g
  ·exact d
  ·exact u6 _ _ _ g d
 ·cases a
theorem Oi{e:List α}{l:α}(m:mw key e)(f:Nat)(g:∀i,e[f]?=some i->cE (key l) (key i)=true):∀k∈e.drop f,cE (key l) (key k)=true:=by
 intro k h;obtain⟨n,a⟩:=aeN h;rw[ae8]at a;have j:=(aeu.1 a).1;have c:f<e.length:=om;have d:=g _ (abK c);rcases m.le_of_le (abK c) a om with b|b
 ·rw[<-b];exact d
 ·exact u6 _ _ _ d b
theorem FK{l b a:List α}{c:α}(d:(b++c::a).Perm l)(h:(l.map key).Nodup)(i:mw key (b++a))(g:∀e∈b,cE (key e) (key c)=true)(f:∀e∈a,cE (key c) (key e)=true):cG key l=b++c::a:=
 ny h d (JT i g f)
theorem JV{a:List α}{e:α}(c:mw key a)(i:((e::a).map key).Nodup)(b:Nat)(h:b<=a.length)(g:∀d,0<b->a[b-1]?=some d->cE (key d) (key e)=true)(f:∀d,a[b]?=some d->cE (key e) (key d)=true):
  cG key (e::a)=a.take b++e::a.drop b:=
 FK (List.perm_middle.trans (by rw[aet])) i (by rw[aet];exact c) (Oh c b h g) (Oi c b f)
theorem Mu{a:List α}{e:α}(c:mw key a)(i:((a++[e]).map key).Nodup)(b:Nat)(h:b<=a.length)(g:∀d,0<b->a[b-1]?=some d->cE (key d) (key e)=true)(f:∀d,a[b]?=some d->cE (key e) (key d)=true):
  cG key (a++[e])=a.take b++e::a.drop b:=
 FK ((JU _ _ _).trans (by rw[aet])) i (by rw[aet];exact c) (Oh c b h g) (Oi c b f)
theorem Qd{c b:List α}(k:mw key c)(l:mw key b)(f:((c++b).map key).Nodup)(s t:Nat)(h:s<=c.length)(j:t<=b.length) 
  (i:∀e d,0<s->c[s-1]?=some e->b[t]?=some d->cE (key e) (key d)=true)
  (g:∀e d,0<t->b[t-1]?=some e->c[s]?=some d->cE (key e) (key d)=true):
  cG key (c++b)=cG key (c.take s++b.take t)++cG key (c.drop s++b.drop t)/\((c.take s++b.take t).map key).Nodup/\((c.drop s++b.drop t).map key).Nodup:=by
 have a:=xH (JQ c b s t) f;rw[List.map_append,List.nodup_append]at a;refine⟨ny f (((dE _).append (dE _)).trans (JQ c b s t)) ?_,a.1,a.2.1⟩;exact Tw (iG a.1) (iG a.2.1) (dE _) (dE _) (aaP k l s t h j i g)
end
section
variable{C:dR} {cF:ql}
theorem Di{f:FuncId}{dM c:List V}{es:Nat}{b:List (List V)}{P:cO->List (List V)->Prop}(r:bV C cF f dM [.row es b] fun j l=>∃a,l=[.row es a]/\cM j=true/\(∀e∈a,fu 0 e=true)/\P j a) 
  (n:Nat) {σ:VS} {K:cO->VS->Prop} (m:nth σ n=some (.row es b)) (o:∀e∈b,fu 0 e=true) (k:fu 1 dM=true) (x:c=hU (jT [n] σ.length) dM) (s:∀j a,P j a->K j (σ.set n (.row es a))):
  bV C cF f c σ K:=by
 have d:∀(g:Nat->Nat) (p:List (List V)),(∀e∈p,fu 0 e=true)->dF g (.row es p)=.row es p:=by
  intro g p i;simp only[dF];congr 1;conv=>rhs;rw[<-List.map_id p]
  exact ae5 fun e h=>fL g e (i e h)
 refine r.frame [n] Z sm (fun z y i=>?_) k x (fun v t i _=>?_)
 ·cases z with
  |zero=>
   obtain rfl:n=y:=by simpa using i
   refine⟨.row es b,Z,?_,?_⟩
   ·rw[<-ck,m,d _ _ o]
   ·simp only[fW,List.all_eq_true];exact fun e h=>gx 1 e (o e h)
  |succ z=>simp at i
 ·obtain⟨a,rfl,q,w,u⟩:=i;rw[mv _ _ q];simp only[aeO,List.map_nil,d _ _ w,merge,List.append_nil];exact s v a u
end
end Go.VM
namespace Go.Proofs.YtpejealjkmhkgaaGreatDoor
open Go.AM Go.VM
theorem A9(l:List FE):∀b∈rows l,fu 0 b=true:=by
 intro b a;simp only[rows,ae4,aeV]at a;obtain⟨c,_,rfl⟩:=a;exact qW 0 (fe c)
def ew:Bool->Nat
 |false=>7
 |true=>9
def zb:Bool->FE->cH
 |false,a=>fe a
 |true,a=>pe a
def elw:Bool->FE->V
 |false,a=>fw a
 |true,a=>pw a
def dg(b:Bool)(xs:List FE):List (List V):=(xs.map (zb b)).map fun a=>a.map V.d
def nz:Bool->V
 |false=>.fn qR [] []
 |true=>.fn tx [] []
def acD:Bool->FuncId
 |false=>kY
 |true=>kG
def acE:Bool->FuncId
 |false=>mu
 |true=>lF
def acF:Bool->FuncId
 |false=>j5
 |true=>jD
def Qe:Bool->FuncId
 |false=>lE
 |true=>kP
def adM:Bool->FuncId
 |false=>mr
 |true=>lD
def adN:Bool->FuncId
 |false=>lV
 |true=>kX
abbrev Ba{b c:Bool}(_:b=c):Bool:=b
theorem Ir{a:Bool}(l:List FE)(b:Nat)(c:FE):(dg a l).set b ((zb a c).map V.d)=dg a (l.set b c):=by
 simp only[dg,List.map_set]
theorem gY{b:Bool}{l:List FE}{c:Nat}{a:FE}(d:l[c]?=some a):nth (dg b l) c=some ((zb b a).map V.d):=by
 rw[ck,dg,List.getElem?_map,List.getElem?_map,d];rfl
theorem Bb{c:Bool}(l:List FE):∀b∈dg c l,fu 0 b=true:=by
 intro b a;simp only[dg,ae4,aeV]at a;obtain⟨d,_,rfl⟩:=a;exact qW 0 (zb c d)
theorem BF(e:Bool)(f c g d h:List FE)(R:c.length=d.length)(n i b q:Nat)(N:n=(f++(c++(g++(d++h)))).length)(ab:i=f.length)(U:b=f.length+(c.length+g.length))(W:q=c.length)(Y:n<4294967296):
  bV C ca (acD e) [.ms 0 (ew e) 0 n n,bW i,bW b,bW q,(nz e)] [.row (ew e) (dg e (f++(c++(g++(d++h)))))] fun T D=>D=[.row (ew e) (dg e (f++(d++(g++(c++h)))))]/\T=.ret (.dS []):=by
 have L:e=e:=rfl;cases e;all_goals
  let e:Bool:=Ba L
  have P:n=f.length+(c.length+(g.length+(d.length+h.length))):=by rw[N];simp
  refine cj ?_;refine cw (dB:=[(0,.ms 0 (ew e) 0 n n),(1,bW i),(2,bW b),(3,bW q),(10,bW 0)]) (fU:=[.row (ew e) (dg e (f++(d.take 0++(c.drop 0++(g++(c.take 0++(d.drop 0++h)))))))]) .eS ?_;refine cd.iter (fun a:Nat=>[(0,.ms 0 (ew e) 0 n n),(1,bW i),(2,bW b),(3,bW q),(10,bW a)]) (fun a=>[.row (ew e) (dg e (f++(d.take a++(c.drop a++(g++(c.take a++(d.drop a++h)))))))]) (fun a=>q-a) (fun a=>a<=q) ?_ 0 (Nat.zero_le _);intro a aa;apply aZ<;>intro J
  ·have o:a<q:=ee J;have p:a<c.length:=om;have r:a<d.length:=om;have O:c.drop a=c[a]::c.drop (a+1):=aeZ p;have K:d.drop a=d[a]::d.drop (a+1):=aeZ r;have x:c.take (a+1)=c.take a++[c[a]]:=by rw[List.take_add_one,abK p];rfl
   have z:d.take (a+1)=d.take a++[d[a]]:=by rw[List.take_add_one,abK r];rfl
   have E:(c.take a).length=a:=by simp;omega
   have u:(d.take a).length=a:=by simp;omega
   have F:(c.drop (a+1)).length=c.length-(a+1):=by simp
   have H:f++(d.take a++(c.drop a++(g++(c.take a++(d.drop a++h)))))=(f++d.take a)++c[a]::((c.drop (a+1)++(g++c.take a))++d[a]::(d.drop (a+1)++h)):=by rw[O,K];simp only[aev,List.cons_append,List.nil_append]
   have G:f++(d.take (a+1)++(c.drop (a+1)++(g++(c.take (a+1)++(d.drop (a+1)++h)))))=(f++d.take a)++d[a]::((c.drop (a+1)++(g++c.take a))++c[a]::(d.drop (a+1)++h)):=by rw[x,z];simp only[aev,List.cons_append,List.nil_append]
   have m:i+a=(f++d.take a).length:=by rw[aeP,u];omega
   have s:b+a=(f++d.take a).length+1+(c.drop (a+1)++(g++c.take a)).length:=by simp only[aeP,u,E,F];omega
   have B:IntKind.i64.wrap (abL i+abL a)=abL (i+a):=c4 om;have A:IntKind.i64.wrap (abL b+abL a)=abL (b+a):=c4 om;have j:=sO (f++d.take a) ((c.drop (a+1)++(g++c.take a))++d[a]::(d.drop (a+1)++h)) c[a] (i+a) m;have k:=za (f++d.take a) (c.drop (a+1)++(g++c.take a)) (d.drop (a+1)++h) c[a] d[a] (b+a) s;have gs:=Hx (f++d.take a) (c.drop (a+1)++(g++c.take a)) (d.drop (a+1)++h) c[a] d[a] (i+a) (b+a) m s;rw[<-H]at j k gs;rw[<-G]at gs;generalize c[a]=X at j k gs;generalize d[a]=M at j k gs;dsimp only;generalize f++(d.take a++(c.drop a++(g++(c.take a++(d.drop a++h)))))=l at j k gs⊢;have w:nth (dg e l) (0+(i+a))=some ((zb e X).map V.d):=by rw[Nat.zero_add];exact gY j
   have t:nth (dg e l) (0+(b+a))=some ((zb e M).map V.d):=by rw[Nat.zero_add];exact gY k
   have v:nth ((dg e l).set (0+(i+a)) ((zb e M).map V.d)) (0+(b+a))=some ((zb e M).map V.d):=by
    rw[ck,List.getElem?_set_ne om,<-ck];exact t
   have I:i+a<n:=om;have y:b+a<n:=om;repeat first
    |refine bZ B ?_
    |refine bZ A ?_
    |refine a6 I ?_
    |refine a6 y ?_
    |refine cc _ v ?_
    |refine cc _ w ?_
    |refine cc _ t ?_
    |refine cf ?_
   refine⟨a+1,o,iK,.same ⟨Z,Z,Z,Z,int_eq (cp om),tv⟩ ?_,Z,Z⟩;exact R5
  ·have o:q<=a:=dq J;refine⟨?_,Z⟩;rw[ae1 om,ae1 om,ae2 om,ae2 om];simp;exact⟨Z,Z⟩
theorem fs{a b:Nat}(d:b<=a)(c:a<9223372036854775808):IntKind.i64.wrap (abL a-abL b)=abL (a-b):=by
 exact XU
theorem vi{a b:Int}{c:IntKind}(d:a=b):V.d (.int c a)=V.d (.int c b):=by rw[d]
theorem dne{c b:Nat}(a:(!decide (abL c=abL b))=true):c≠b:=by
 rw[Bool.not_eq_true']at a;exact ED a
theorem adO{c b:Nat}(a:(!decide (abL c=abL b))=false):c=b:=by
 rw[Bool.not_eq_false']at a;exact AJ a
theorem sP(a:Bool)(d c l m o:List FE)(i:c.length=m.length)(n p b t:Nat)(v:List FE)(r:v=d++(c++(l++(m++o))))(x:n=v.length)(y:p=d.length)(q:b=d.length+(c.length+l.length))(s:t=c.length)(w:n<4294967296) 
  {g e h:V} (k:g=bW p) (j:e=bW b) (f:h=bW t) {K:cO->VS->Prop} (u:K (.ret (.dS [])) [.row (ew a) (dg a (d++(m++(l++(c++o)))))]):bV C ca (acD a) [.ms 0 (ew a) 0 n n,g,e,h,(nz a)] [.row (ew a) (dg a v)] K:=by
 subst k j f r;refine(BF a d c l m o i n p b t x y q s w).mono (fun B z A=>?_);rw[A.1,A.2];exact u
theorem Hy(f:Bool)(q p s y:List FE)(H:0<p.length)(K:0<s.length)(n L o b:Nat)(I:n=(q++(p++(s++y))).length)(Q:L=q.length)(J:o=q.length+p.length)(P:b=q.length+(p.length+s.length))(z:n<4294967296):
  bV C ca (acE f) [.ms 0 (ew f) 0 n n,bW L,bW o,bW b,(nz f)] [.row (ew f) (dg f (q++(p++(s++y))))] fun O E=>E=[.row (ew f) (dg f (q++(s++(p++y))))]/\O=.ret (.dS []):=by
 have G:f=f:=rfl;cases f;all_goals
  let f:Bool:=Ba G
  have D:n=q.length+(p.length+(s.length+y.length)):=by rw[I];simp
  refine cj ?_;refine cw (dB:=[(0,.ms 0 (ew f) 0 n n),(2,bW o),(4,(nz f)),(10,bW p.length),(11,bW s.length)]) (fU:=[.row (ew f) (dg f (q++(p++(s++y))))]) (.same ⟨Z,Z,Z,int_eq (by rw[fs om om];congr 1;omega),int_eq (by rw[fs om om];congr 1;omega),tv⟩ Z) ?_;refine cd.iter (fun g:List FE×List FE×List FE×List FE=>[(0,.ms 0 (ew f) 0 n n),(2,bW o),(4,(nz f)),(10,bW g.2.1.length),(11,bW g.2.2.1.length)]) (fun g=>[.row (ew f) (dg f (g.1++(g.2.1++(g.2.2.1++g.2.2.2))))]) (fun g=>g.2.1.length+g.2.2.1.length)
   (fun g=>0<g.2.1.length/\0<g.2.2.1.length/\o=g.1.length+g.2.1.length/\n=g.1.length+(g.2.1.length+(g.2.2.1.length+g.2.2.2.length))/\q++(s++(p++y))=g.1++(g.2.2.1++(g.2.1++g.2.2.2))) ?_ (q,p,s,y) ⟨H,K,J,D,rfl⟩
  rintro⟨d,a,c,e⟩ ⟨v,u,r,l,w⟩;have v:0<a.length:=v;have u:0<c.length:=u;have r:o=d.length+a.length:=r;have l:n=d.length+(a.length+(c.length+e.length)):=l;have w:q++(s++(p++y))=d++(c++(a++e)):=w;apply aZ<;>intro F
  ·have m:=dne F;apply aZ<;>intro B
   ·have t:c.length<a.length:=ee B;obtain⟨i,h,rfl,x⟩:=Mt a c.length om;simp only[aeP]at v r l m t;refine sP f d i h c e x n (o-(i++h).length) o c.length _ sm (by simp;omega) (by simp;omega) om om z (vi (fs (by simp;omega) om)) Z Z ?_;refine⟨(d++c,h,i,e),⟨by show 0<h.length;omega,by show 0<i.length;omega,by show o=(d++c).length+h.length;simp;omega,by show n=(d++c).length+(h.length+(i.length+e.length));simp;omega,?_⟩,by show h.length+i.length<(i++h).length+c.length;simp;omega,.same ⟨Z,Z,Z,int_eq ?_,int_eq (by rw[x]),tv⟩ ?_,Z,Z⟩
    ·show _=(d++c)++(i++(h++e));rw[w];simp
    ·rw[fs (by simp;omega) (by simp;omega)];congr 1;simp;omega
    ·show [cN.row (ew f) (dg f (d++(c++(h++(i++e)))))]=[.row (ew f) (dg f ((d++c)++(h++(i++e))))];rw[aev]
   ·have t:a.length<=c.length:=dq B;obtain⟨k,j,rfl,A⟩:=Mt c (c.length-a.length) om;simp only[aeP]at u l m t A;refine sP f d a k j e om n (o-a.length) (o+(k++j).length-a.length) a.length _ sm (by simp;omega) om (by simp;omega) Z z (vi (fs om om)) (vi ?_) Z ?_
    ·rw[c4 (by simp;omega),fs (by simp;omega) (by simp;omega)]
    refine⟨(d,j,k,a++e),⟨by show 0<j.length;omega,by show 0<k.length;omega,by show o=d.length+j.length;omega,by show n=d.length+(j.length+(k.length+(a++e).length));simp;omega,?_⟩,by show j.length+k.length<a.length+(k++j).length;simp;omega,.same ⟨Z,Z,Z,int_eq (congrArg abL (show a.length=j.length by omega)),int_eq ?_,tv⟩ Z,Z,Z⟩
    ·show _=d++(k++(j++(a++e)));rw[w];simp
    ·rw[fs (by simp;omega) (by simp;omega)];congr 1;simp;omega
  ·have m:=adO F;refine sP f d a [] c e m n (o-a.length) o a.length _ sm (by simp;omega) om (by simp;omega) Z z (vi (fs om om)) Z Z ?_;refine⟨?_,Z⟩;rw[w];rfl
end Go.Proofs.YtpejealjkmhkgaaGreatDoor
