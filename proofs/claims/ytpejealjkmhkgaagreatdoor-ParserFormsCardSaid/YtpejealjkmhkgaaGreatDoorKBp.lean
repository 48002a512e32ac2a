/- Part of the proof. -/
import Derived.Test.YtpejealjkmhkgaaGreatDoorKBo
set_option linter.all false
set_option maxHeartbeats 16000000
set_option maxRecDepth 100000
open Nat renaming zero_le->abK,le_refl->abL,le_of_ble_eq_true->aeN
open List renaming length_nil->aet,getElem_mem->aeu,take_of_length_le->aev,length_append->aeM,append_assoc->aeO,length_take->aeP,length_map->aeQ,map->aeR,length_cons->aeS,mem_singleton->aeU
open Bool renaming true_or->aeT
namespace Go.Proofs.YtpejealjkmhkgaaGreatDoor
open Go.AM Go.VM
variable{q:cq} {g:Nat->PR Ty} {o r:Bool} {m:jX} {k:Nat->PR Ex}
section
variable{R:Rd} (w:R.Wf) (mS:R.Nm)
include w mS
theorem UZ(l:Good g R 0)(L:(r=true->o=true)/\(q≠[]->r=true)){p y:Nat}(Y:p<R.ts.length)(e:kt g R o r q p=.ok m y):wE m/\iw m+p<=y/\y<R.ts.length:=by
 rw[kt]at e;split at e
 ·cases e
 ·rename_i aa q1 O;obtain⟨H,rfl,z⟩:=HW w mS O;split at e
  ·cases e
  ·rename_i h q2 J;obtain⟨f,B,ac,M⟩:=F1 w (P:=fun T=>∀d∈T,d.b=cV/\d.vr<=2/\dX d.n=true) (M:=List.length) (abB w mS) z (fun d a=>by cases a) J;simp only[aet]at B;split at e
   ·cases e
   ·rename_i c q3 P;obtain⟨E,S,X,C⟩:=UX w l (Rc w mS) M P;split at e
    ·cases e
    ·rename_i up q4 Q;obtain⟨F,I,k,N⟩:=UX w l (q9 w mS) C Q;obtain⟨x,j,rfl⟩:=dv e;obtain⟨A,j⟩:=qg w N j;obtain⟨t,V,U,K⟩:=l _ _ _ (abK _) A j;have G:ct zm=1:=rfl;have D:ct cV=1:=rfl;refine⟨⟨?_,?_,t,UY w mS,fun d a=>⟨by rw[(f d a).1];exact q9 w mS,(f d a).2.2⟩,?_,L,.inl ⟨Z,H,Z,Z,Z,fun d a=>⟨(f d a).1,(f d a).2.1⟩⟩⟩,?_,K⟩
     ·show ft (if c.1||up.1 then c.2 else x);split
      ·exact E
      ·exact t
     ·show ft (if c.1||up.1 then up.2 else x);split
      ·exact F
      ·exact t
     ·have:=w.len;show h.length<4294967296;omega
     ·by_cases b:(c.1||up.1)=true
      ·rw[if_pos b,if_pos b];have i:iw ⟨0,aa,o,r,q,h,c.2,up.2,x,oe,[],[]⟩<=1+h.length+(ct x+(ct c.2+ct up.2)):=by
        rw[iw,if_pos rfl];split
        ·simp only[];omega
        ·exact abL _
       rcases S with⟨v,s,ab⟩|⟨v,s⟩<;>rcases I with⟨u,n,W⟩|⟨u,n⟩
       ·rw[v,u]at b;cases b
       ·rw[s,G]at i;rw[s];omega
       ·rw[n,D]at i;rw[n];omega
       ·omega
      ·rw[if_neg b,if_neg b];rw[KE rfl ⟨rfl,rfl⟩];show 1+h.length+ct x+p<=y;omega
theorem U0(i:Good g R 0)(a:eX k R 0)(A:(r=true->o=true)/\(q≠[]->r=true)){p l:Nat}(H:p<R.ts.length)(c:mB g k R o r q p=.ok m l):wE m/\iw m+p<=l/\l<R.ts.length:=by
 rw[mB]at c;split at c
 ·cases c
 ·rename_i N q1 D;obtain⟨x,rfl,n⟩:=HX w mS D;split at c
  ·cases c
  ·rename_i f q2 y;obtain⟨e,t,J,C⟩:=F1 w (P:=fun j=>∀b∈j,ft b.b/\b.vr=0/\dX b.n=true) (M:=fun j=>j.length+lX j) (abC w mS i) n (fun b a=>by cases a) y;simp only[aet,lX]at t;split at c
   ·cases c
   ·rename_i K q3 h;obtain⟨v,h⟩:=qg w C h;obtain⟨B,G,L,z⟩:=i _ _ _ (abK _) v h;obtain⟨b,d,rfl⟩:=dv c;obtain⟨s,d⟩:=qg w z d;obtain⟨E,I,F,u⟩:=a _ _ _ (abK _) s d;refine⟨⟨q9 w mS,q9 w mS,B,E,fun b a=>⟨(e b a).1,(e b a).2.2⟩,?_,A,.inr (.inl ⟨Z,x,Z,Z,Z,Z,fun b a=>(e b a).2.1⟩)⟩,?_,u⟩
    ·have:=w.len;show f.length<4294967296;omega
    ·rw[wh rfl];show 1+f.length+(ct K+cP b+lX f)+p<=l;omega
theorem F2{p b:Nat}{s:cq}(a:iS R p=.ok s b):(cK s=true∨dX s=true)/\b=p+1/\b<R.ts.length:=by
 rw[iS]at a;split at a
 ·obtain⟨e,c,d⟩:=HW w mS a;exact⟨.inr e,c,d⟩
 ·obtain⟨e,c,d⟩:=HX w mS a;exact⟨.inl e,c,d⟩
theorem U1(j:(r=true->o=true)/\(q≠[]->r=true)){p s:Nat}(v:p<R.ts.length)(c:kQ R o r q p=.ok m s):wE m/\iw m+p<=s/\s<R.ts.length:=by
 rw[kQ]at c;split at c
 ·cases c
 ·rename_i A q1 t;obtain⟨i,rfl,f⟩:=HX w mS t;split at c
  ·cases c
  ·rename_i x q2 a;obtain⟨e,a⟩:=qg w f a;obtain⟨h,rfl,e⟩:=F2 w mS a;obtain⟨z,b,rfl⟩:=dv c;obtain⟨d,b⟩:=qg w e b;obtain⟨l,rfl,d⟩:=F2 w mS b;refine⟨⟨q9 w mS,q9 w mS,q9 w mS,UY w mS,(fun y n=>by cases n),(by show 0<4294967296;decide),j,.inr (.inr ⟨Z,Z,Z,Z,Z,Z,i,l,h⟩)⟩,?_,d⟩;rw[iw,if_neg (fun u=>by cases u),if_neg (fun u=>by cases u)];show 1+0+0+p<=_;omega
theorem Xs{p i:Nat}{a:Bool×Bool×cq}(d:p<R.ts.length)(c:og R p=.ok a i):((a.2.1=true->a.1=true)/\(a.2.2≠[]->a.2.1=true))/\p<=i/\i<R.ts.length:=by
 rw[og]at c;split at c
 ·rename_i f;have b:=w.step d f;split at c
  ·rename_i e;have h:=w.step b e;obtain⟨s,j,rfl⟩:=dv c;obtain⟨n,l⟩:=jG w dc h j;exact⟨⟨fun _=>Z,fun _=>Z⟩,om,l⟩
  ·cases c;exact⟨⟨fun _=>rfl,fun a=>absurd rfl a⟩,om,b⟩
 ·cases c;exact⟨⟨fun a=>a,fun a=>absurd rfl a⟩,abL _,d⟩
theorem Xt(f:Good g R 0)(l:eX k R 0){p n:Nat}(i:p<R.ts.length)(c:j6 g k R p=.ok m n):wE m/\iw m+p<=n/\n<R.ts.length:=by
 rw[j6]at c;split at c
 ·cases c
 ·rename_i t u j;obtain⟨d,v,b⟩:=Xs w mS i j;split at c
  ·rename_i a;obtain⟨e,s,h⟩:=UZ w mS f d (w.step b a) c;exact⟨e,om,h⟩
  ·split at c
   ·rename_i a;obtain⟨e,s,h⟩:=U0 w mS f l d (w.step b a) c;exact⟨e,om,h⟩
   ·split at c
    ·rename_i a;obtain⟨e,s,h⟩:=U1 w mS d (w.step b a) c;exact⟨e,om,h⟩
    ·cases c
theorem OM{p d:Nat}{s:cq}(b:R.ts.length<=65537)(c:p<R.ts.length)(a:hP R p=.ok s d):fV s=true/\p<d/\d<R.ts.length:=by
 obtain⟨h,f⟩:=(xO w mS b).lt _ _ _ c a;refine⟨?_,h,f⟩;rw[hP]at a;split at a
 ·cases a
 ·split at a
  ·cases a
  ·split at a
   ·rename_i e;cases a;exact e
   ·cases a
theorem Nl(h:R.ts.length<=65537):∀(p:Nat) (n:List vY) (f:Nat) (a:List vY) (l:Nat),f<R.ts.length->(∀d∈n,fV d.p=true/\cK d.a=true)->fT R p n f=.ok a l->(∀d∈a,fV d.p=true/\cK d.a=true)/\a.length+f<=n.length+l/\l<R.ts.length:=by
 intro p;induction p with
 |zero=>intro n f a l _ _ c;cases c
 |succ p B=>
  intro n f a l i j c;rw[fT]at c;split at c
  ·rename_i x;split at c
   ·cases c
   ·rename_i H q1 b;rw[iu]at b;split at b
    ·cases b
    ·rename_i s q2 z;obtain⟨D,G,E⟩:=OM w mS h (w.step i x) z;obtain⟨F,e,rfl⟩:=dv b;obtain⟨C,e⟩:=qg w E e;obtain⟨y,rfl,t⟩:=HX w mS e;obtain⟨v,A,u⟩:=B _ _ _ _ t (fun d hx=>by
      rcases List.mem_append.1 hx with hx|hx
      ·exact j d hx
      ·rw[aeU]at hx;subst hx;exact⟨D,y⟩) c
     simp only[aeM,aeS,aet]at A;exact⟨v,om,u⟩
  ·cases c;exact⟨j,abL _,i⟩
theorem U2(t:Good g R 0)(hx:eX k R 0):∀(n:Nat) (d:List jX) (a:List Nat) (f:Nat) (c:List jX×List Nat) (l:Nat),f<R.ts.length->(∀e∈d,wE e)->a.length=d.length->ib g k R n d a f=.ok c l->(∀e∈c.1,wE e)/\c.2.length=c.1.length/\gL c.1+f<=gL d+l/\l<R.ts.length:=by
 intro n;induction n with
 |zero=>intro d a f c l _ _ _ b;cases b
 |succ n y=>
  intro d a f c l h j i b;rw[ib]at b;split at b
  ·split at b
   ·cases b
   ·rename_i z q1 x;obtain⟨A,C,B⟩:=Xt w mS t hx h x;obtain⟨s,v,p,u⟩:=y _ _ _ _ _ B (fun e hx=>by
      rcases List.mem_append.1 hx with hx|hx
      ·exact j e hx
      ·rw[aeU]at hx;subst hx;exact A) (by simp[i]) b
    rw[DO,show gL [z]=iw z by simp[gL]]at p;exact⟨s,v,om,u⟩
  ·cases b;exact⟨j,i,abL _,h⟩
theorem U3(h:Good g R 0)(a:eX k R 0)(B:R.ts.length<=4097){p C:Nat}{d:FO×List Nat}(l:p<R.ts.length)(c:tQ g k R p=.ok d C):Nb d.1/\d.2.length=d.1.ds.length/\C<R.ts.length:=by
 rw[tQ]at c;split at c
 ·cases c
 ·rename_i s q1 b;obtain⟨e,b⟩:=qg w l b;obtain⟨y,F,n⟩:=OM w mS om e b;split at c
  ·cases c
  ·rename_i v q3 x;obtain⟨i,f,t⟩:=Nl w mS om _ _ _ _ _ n (fun D a=>by cases a) x;obtain⟨E,z,rfl⟩:=dv c;obtain⟨j,u,d4,A⟩:=U2 w mS h a _ _ _ _ _ _ t (fun D a=>by cases a) rfl z;simp only[aet]at f;have G:gL []=0:=rfl;refine⟨⟨?_,y,i,j⟩,u,A⟩;show 1+v.length+gL E.1<=4096;omega
end
theorem Re(s:cq)(f:∀a,jl s=.ok a->a.length<=4097){σ:VS}{K:cO->VS->Prop}(d:∀h,Ra s h->K h σ):bV C ca tj [cn s] σ K:=by
 refine bV.closed (Nk s fun a n l c e=>?_) Z d;obtain⟨w,b⟩:=mC (R:=⟨0,0,a⟩) c;have mS:=qc (R:=⟨0,0,a⟩) c;obtain⟨j,i,_⟩:=U3 w mS (pt w mS _) (zx w mS _ 0) (f _ c) b e;exact⟨j,i⟩
def aej:Nat->Bool:=fun a=>Nat.beq a 23
def ZZ(c:List V)(a:List cH):VS:=[.box c,.row 5 (a.map fun b=>b.map V.d)]
def Z0(a:Nat×List cH):Tm:=[(1,.bp 0 0),(3,.ms 1 5 0 a.2.length a.2.length),(4,bW a.1)]
theorem Nz{c:Nat->Nat}(a:List cH)(b:cH):some (cN.row 5 (List.take a.length (List.drop 0 (aeR (fun b=>aeR V.d b) a))++[b.map V.d]))=some (dF c (.row 5 (aeR (fun b=>aeR V.d b) (a++[b])))):=by
 rw[sM,List.drop_zero,aev sm];simp
theorem RL(c:Nat)(a:List cH)(b:cH):some (V.ms c 5 0 (a.length+1) (a.length+1))=some (V.ms c 5 0 (a++[b]).length (a++[b]).length):=by simp
theorem ON(c:Nat)(a:List cH):some (V.ms c 5 0 (0+(aeR (fun b=>aeR V.d b) a).length) (0+(aeR (fun b=>aeR V.d b) a).length))=some (V.ms c 5 0 a.length a.length):=by simp
theorem HY(E:Nat)(G n:cq)(b:List Ty)(a:List oG)(N f:D)(K:fA b N)(i:ll a f)(R:b.length+a.length<4294967296):
  bV C ca n7 [.agg (qk E G n N f)] [] fun M I=>I=[]/\cM M=true/\∃P,Ii (b++ea a) P/\M=.ret (.d P):=by
 refine cv aej (fun _=>Z) ?_;cases K with
 |nil=>
  refine a6 ⟨Z,Z,abL _,abL _,aeN Z,aeN Z⟩ ?_;cases i with
  |nil=>
   refine cd.loop ?_;refine jw (els:=[]) 0 _ sm ?_ ?_
   ·exact Z
   ·simpa [ea]using dz.nil
  |ps i=>
   rename_i t s c d;have l:=i.len;refine cw (dB:=Z0 (0,[])) (fU:=ZZ (qk E G n .ci (.ps t s 7 c d)) []) .eS ?_;refine cd.iter Z0 (fun x=>ZZ (qk E G n .ci (.ps t s 7 c d)) x.2) (fun x=>a.length-x.1) (fun x=>x.1<=a.length/\dz ([]++ea (a.take x.1)) x.2) ?_ (0,[]) ⟨abK _,by simpa [ea]using dz.nil⟩;rintro⟨j,acc⟩ ⟨v,rb⟩;have v:j<=a.length:=v;have rb:dz ([]++ea (a.take j)) acc:=rb;have p:=rb.len;rw[aeM,ea,aeQ,aeP]at p;try simp only[aet]at p
   apply aZ<;>intro y
   ·have lU:j<a.length:=l▸ee y;obtain⟨x,hx,_,_,w⟩:=i.get lU;have xX:dz ([]++ea (a.take (j+1))) (acc++[x.ty]):=by rw[v7 lU,<-aeO];exact rb.snoc w
    exact Yp
   ·have lU:a.length<=j:=l▸dq y;exact R4
 |ps L B=>
  rename_i Q O z u;cases u with
  |nil=>exact absurd rfl B
  |cons h e=>
   have J:=L.len;have A:e.length+1<4294967296:=by simp only[aeS]at J;omega
   refine a6 Z (a6 ⟨Z,Z,abL _,abL _,vZ h e A⟩ ?_);refine a7 Z (a7 Z ?_);cases i with
   |nil=>
    refine cd.loop ?_;refine jw (els:=(h::e)) 1 _ sm ?_ ?_
    ·exact Z
    ·simpa [ea]using L
   |ps i=>
    rename_i t s c d;have l:=i.len;refine cw (dB:=Z0 (0,(h::e))) (fU:=ZZ (qk E G n (.ps Q O 5 z (h::e)) (.ps t s 7 c d)) (h::e)) (.pick 1 [0,2] ⟨Z,ON 2 (h::e),Z,tv⟩ Z Z Z Z Z dc ⟨Z,Z,xL h e,jv _ _ _,tv⟩) ?_;refine cd.iter Z0 (fun x=>ZZ (qk E G n (.ps Q O 5 z (h::e)) (.ps t s 7 c d)) x.2) (fun x=>a.length-x.1) (fun x=>x.1<=a.length/\dz (b++ea (a.take x.1)) x.2) ?_ (0,(h::e)) ⟨abK _,by simpa [ea]using L⟩;rintro⟨j,acc⟩ ⟨v,rb⟩;have v:j<=a.length:=v;have rb:dz (b++ea (a.take j)) acc:=rb;have p:=rb.len;rw[aeM,ea,aeQ,aeP]at p;try simp only[aet]at p
    apply aZ<;>intro y
    ·have lU:j<a.length:=l▸ee y;obtain⟨x,hx,_,_,w⟩:=i.get lU;have xX:dz (b++ea (a.take (j+1))) (acc++[x.ty]):=by rw[v7 lU,<-aeO];exact rb.snoc w
     exact Yp
    ·have lU:a.length<=j:=l▸dq y;exact R4
theorem ra(t:Ty)(c:cH)(d:eZ t c)(j:ct t<4294967296){σ:VS}{K:cO->VS->Prop}(e:∀c,Ii (dD t) c->K (.ret (.d c)) σ):bV C ca n7 [.agg (c.map V.d)] σ K:=by
 cases d with
 |mk n h=>
  rename_i f l i b a u v;have w:=dA (dD (.mk f l i b a));rw[eO]at j;have s:(dD (.mk f l i b a)).length=b.length+a.length:=by simp[dD,ea]
  exact bV.closed (P:=fun p=>∃c,Ii (b++ea a) c/\p=.ret (.d c)) (HY f l i b a u v n h om) Z (fun p ⟨c,x,y⟩=>by rw[y];exact e c x)
theorem HZ(n:Nat)(y:∀(t:Ty) (i:cH),ct t<=n->eZ t i->∀{u:VS} {z:cO->VS->Prop},z (.ret (bW (nD t))) u->bV C ca iF [.agg (i.map V.d)] u z) 
  (t:Ty) (i:cH) (N:ct t<=n+1) (S:n<4294967295) (j:eZ t i):bV C ca iF [.agg (i.map V.d)] [] fun K s=>s=[]/\K=.ret (bW (nD t)):=by
 obtain⟨P,Q,w,M,O,rfl⟩:=j.cZ;have E:=eO t;refine cm ?_;refine ra t _ j om (fun i p=>?_);rw[sU];have l:cy (dD t)<=n:=om;generalize dD t=b at p l;have A:=dA b;cases p with
 |nil=>
  exact oy
 |ps I=>
  rename_i G B e f;have d:=I.len;refine cD (dB:=[(3,bW 0),(4,.d (.ps G B 5 e f)),(5,bW 0)]) ?_;refine cd.iter (fun c:Nat=>[(3,bW (gl (b.take c))),(4,.d (.ps G B 5 e f)),(5,bW c)]) (fun _=>[.box (qk P Q w M O)]) (fun c=>b.length-c) (fun c=>c<=b.length) ?_ 0 (abK _);intro c R;apply aZ<;>intro v
  ·have a:c<b.length:=d▸ee v;obtain⟨i,x,h⟩:=I.get a;refine bZ Z ?_;obtain⟨T,L,D9,U,f2,rfl⟩:=h.cZ;refine cc _ (by rw[ck];exact x) ?_;have J:=dJ (aeu a);refine y b[c] _ om h ?_;refine⟨c+1,a,iK,.drop 1 ⟨int_eq ?_,Z,int_eq (cp om),tv⟩ Z Z Z Z Z Z Z,Z,Z⟩;rw[zp a];exact Fe
  ·have a:b.length<=c:=d▸dq v;rw[aev a];have H:=Dw b;exact XI
theorem KN:∀(d:Nat) (a:Ty) (c:cH),d<4294967295->ct a<=d->eZ a c->∀{b:VS} {h:cO->VS->Prop},h (.ret (bW (nD a))) b->bV C ca iF [.agg (c.map V.d)] b h:=by
 intro d;induction d with
 |zero=>intro a c _ n;have:=gO a;omega
 |succ d i=>
  intro a c s n e b h f;obtain⟨u,v,p,w,t,rfl⟩:=e.cZ;exact cC (HZ d (fun a c l j=>i a c om l j) a _ n om e) Z Z f
theorem KO(n:Nat)(y:∀(t:Ty) (i:cH),ct t<=n->eZ t i->∀{u:VS} {z:cO->VS->Prop},z (.ret (bW (ct t))) u->bV C ca iX [.agg (i.map V.d)] u z) 
  (t:Ty) (i:cH) (N:ct t<=n+1) (T:n<4294967295) (j:eZ t i):bV C ca iX [.agg (i.map V.d)] [] fun K s=>s=[]/\K=.ret (bW (ct t)):=by
 obtain⟨P,Q,w,M,O,rfl⟩:=j.cZ;have F:=eO t;refine cm ?_;refine ra t _ j om (fun i p=>?_);rw[eO];have l:cy (dD t)<=n:=om;generalize dD t=b at p l;have A:=dA b;cases p with
 |nil=>
  exact oy
 |ps I=>
  rename_i H B e f;have d:=I.len;refine cD (dB:=[(3,bW (1+0)),(4,.d (.ps H B 5 e f)),(5,bW 0)]) ?_;refine cd.iter (fun c:Nat=>[(3,bW (1+cy (b.take c))),(4,.d (.ps H B 5 e f)),(5,bW c)]) (fun _=>[.box (qk P Q w M O)]) (fun c=>b.length-c) (fun c=>c<=b.length) ?_ 0 (abK _);intro c S;apply aZ<;>intro v
  ·have a:c<b.length:=d▸ee v;obtain⟨i,x,h⟩:=I.get a;refine bZ Z ?_;obtain⟨U,L,E,W,f2,rfl⟩:=h.cZ;refine cc _ (by rw[ck];exact x) ?_;have J:=dJ (aeu a);refine y b[c] _ om h ?_;refine⟨c+1,a,iK,.drop 1 ⟨int_eq ?_,Z,int_eq (cp om),tv⟩ Z Z Z Z Z Z Z,Z,Z⟩;have R:=mE b c;rw[qZ a,<-Nat.add_assoc];exact c4 om
  ·have a:b.length<=c:=d▸dq v;rw[aev a]
   skip
   refine a8 0 ⟨Z,?_⟩;exact congrArg cO.ret (congrArg V.d (congrArg (D.int .i64) (by rw[Nat.add_comm])))
theorem kx:∀(d:Nat) (a:Ty) (c:cH),d<4294967295->ct a<=d->eZ a c->∀{b:VS} {h:cO->VS->Prop},h (.ret (bW (ct a))) b->bV C ca iX [.agg (c.map V.d)] b h:=by
 intro d;induction d with
 |zero=>intro a c _ n;have:=gO a;omega
 |succ d i=>
  intro a c s n e b h f;obtain⟨u,v,p,w,t,rfl⟩:=e.cZ;exact cC (KO d (fun a c l j=>i a c om l j) a _ n om e) Z Z f
theorem s7(a b:cq)(c:cE a b=true){σ:VS}{K:cO->VS->Prop}(d:K (.ret (bW 0)) σ):bV C ca qh [cn a,cn b] σ K:=by
 have e:a≠b:=by rintro rfl;rw[Mr]at c;cases c
 have h:cE b a=false:=by
  cases f:cE b a with
  |false=>rfl
  |true=>have:=u6 _ _ _ c f;rw[Mr]at this;cases this
 refine cj ?_;refine a7 (decide_eq_false e) ?_;refine a7 (by rw[c];rfl) ?_;exact d
theorem kJ(s:cq)(c:s=[]∨cK s=true){σ:VS}{K:cO->VS->Prop}(b:K (.ret (bX true)) σ):bV C ca tN [cn s] σ K:=by
 refine cj ?_;by_cases a:s=[]
 ·subst a;exact b
 ·have c:=c.resolve_left a;repeat refine a7 (decide_eq_false a) ?_
  refine eU s (lZ c) ?_;rw[c];repeat refine a7 (decide_eq_false a) ?_
  exact b
theorem KP(t:Ty)(z:cH)(s:eZ t z)(I:ol t)(v:ct t<4294967296):bV C ca lK [.agg (z.map V.d)] [] fun N H=>H=[]/\N=.ret (bW (si (lm t))):=by
 refine cm ?_;cases I with
 |base O=>
  rename_i F;cases s with
  |mk j hf=>
   obtain rfl:=j.cS;have E:F=0∨F=1∨F=2∨F=3∨F=4:=om;rcases E with rfl|rfl|rfl|rfl|rfl
   ·rcases hf.cS with rfl|⟨d,c,b,rfl⟩
    ·exact wk
    ·exact wk
   ·rcases hf.cS with rfl|⟨d,c,b,rfl⟩
    ·exact wk
    ·exact wk
   ·rcases hf.cS with rfl|⟨d,c,b,rfl⟩
    ·exact wk
    ·exact wk
   ·rcases hf.cS with rfl|⟨d,c,b,rfl⟩
    ·exact wk
    ·exact wk
   ·rcases hf.cS with rfl|⟨d,c,b,rfl⟩
    ·exact wk
    ·exact wk
 |list=>
  cases s with
  |mk j hf=>
   obtain⟨G,D,l,z,rfl⟩:=j.nN;rcases hf.cS with rfl|⟨d,c,b,rfl⟩
   ·exact wk
   ·exact wk
 |Rz h=>
  rename_i fields;have p:=h.tV rfl;cases s with
  |mk j hf=>
   obtain rfl:=j.cS;cases hf with
   |nil=>
    exact wk
   |ps hf=>
    rename_i d c b zI;have K0:=hf.len;have y:=(sV v).1;refine cD (dB:=[(1,.bp 0 0),(5,bW 0)]) ?_;refine cd.iter (fun i:Nat=>[(1,.bp 0 0),(5,bW i)]) (fun _=>[.box (qk 6 [] [] .ci (.ps d c 7 b zI))]) (fun i=>fields.length-i) (fun i=>i<=fields.length) ?_ 0 (abK _);intro i hi;apply aZ<;>intro hc
    ·have hi':i<fields.length:=K0▸ee hc;obtain⟨x,hx,hxn,hxo,vy⟩:=hf.get hi';refine bZ Z ?_;refine cc (fe x) (by rw[ck];exact hx) ?_;have u:=p _ (aeu hi');rw[hxo]at u;repeat refine de ?_
     exact Gc
    ·have hi':fields.length<=i:=K0▸dq hc;clear hc hi' hi;apply aZ<;>intro hc
     ·exact Vx
     ·have XH:fields.length<=32:=K0▸dq (a:=32) hc;repeat refine de ?_
      have e:lm (.mk 6 [] [] [] fields)=false:=by rw[lm,decide_eq_false om];rfl
      rw[e];refine cD (dB:=[(1,.bp 0 0),(6,bW 0)]) ?_;refine cd.iter (fun i:Nat=>[(1,.bp 0 0),(6,bW i)]) (fun _=>[.box (qk 6 [] [] .ci (.ps d c 7 b zI))]) (fun i=>fields.length-i) (fun i=>i<=fields.length) ?_ 0 (abK _);intro i hi;apply aZ<;>intro hc
      ·exact Sh
      ·clear hc hi;refine cD (dB:=[(1,.bp 0 0),(7,bW 1)]) ?_;refine cd.iter (fun i:Nat=>[(1,.bp 0 0),(7,bW i)]) (fun _=>[.box (qk 6 [] [] .ci (.ps d c 7 b zI))]) (fun i=>fields.length-i) (fun i=>1<=i) ?_ 1 (abL _);exact Sb
 |vrt h=>
  rename_i fields;have p:=h.tV rfl;cases s with
  |mk j hf=>
   obtain rfl:=j.cS;cases hf with
   |nil=>
    exact wk
   |ps hf=>
    rename_i d c b zI;have K0:=hf.len;have y:=(sV v).1;refine cD (dB:=[(1,.bp 0 0),(5,bW 0)]) ?_;refine cd.iter (fun i:Nat=>[(1,.bp 0 0),(5,bW i)]) (fun _=>[.box (qk 7 [] [] .ci (.ps d c 7 b zI))]) (fun i=>fields.length-i) (fun i=>i<=fields.length) ?_ 0 (abK _);intro i hi;apply aZ<;>intro hc
    ·have hi':i<fields.length:=K0▸ee hc;obtain⟨x,hx,hxn,hxo,vy⟩:=hf.get hi';refine bZ Z ?_;refine cc (fe x) (by rw[ck];exact hx) ?_;have u:=p _ (aeu hi');rw[hxo]at u;repeat refine de ?_
     exact Gc
    ·have hi':fields.length<=i:=K0▸dq hc;clear hc hi' hi;apply aZ<;>intro hc
     ·exact Vx
     ·have XH:fields.length<=32:=K0▸dq (a:=32) hc;repeat refine de ?_
      have e:lm (.mk 7 [] [] [] fields)=false:=by rw[lm,decide_eq_false om];rfl
      rw[e];refine cD (dB:=[(1,.bp 0 0),(6,bW 0)]) ?_;refine cd.iter (fun i:Nat=>[(1,.bp 0 0),(6,bW i)]) (fun _=>[.box (qk 7 [] [] .ci (.ps d c 7 b zI))]) (fun i=>fields.length-i) (fun i=>i<=fields.length) ?_ 0 (abK _);intro i hi;apply aZ<;>intro hc
      ·exact Sh
      ·clear hc hi;refine cD (dB:=[(1,.bp 0 0),(7,bW 1)]) ?_;refine cd.iter (fun i:Nat=>[(1,.bp 0 0),(7,bW i)]) (fun _=>[.box (qk 7 [] [] .ci (.ps d c 7 b zI))]) (fun i=>fields.length-i) (fun i=>1<=i) ?_ 1 (abL _);exact Sb
 |func h=>
  rename_i J fields;cases s with
  |mk j hf=>
   obtain⟨G,D,l,z,rfl⟩:=j.nN;cases hf with
   |nil=>
    exact wk
   |ps hf=>
    rename_i d c b zI;have K0:=hf.len;have y:=(sV v).1;refine cD (dB:=[(1,.bp 0 0),(5,bW 0)]) ?_;refine cd.iter (fun i:Nat=>[(1,.bp 0 0),(5,bW i)]) (fun _=>[.box (qk 8 [] [] (.ps G D 5 l [z]) (.ps d c 7 b zI))]) (fun i=>fields.length-i) (fun i=>i<=fields.length) ?_ 0 (abK _);intro i hi;apply aZ<;>intro hc
    ·have hi':i<fields.length:=K0▸ee hc;obtain⟨x,hx,hxn,hxo,vy⟩:=hf.get hi';refine bZ Z ?_;refine cc (fe x) (by rw[ck];exact hx) ?_;apply aZ<;>intro Q
     ·repeat refine de ?_
      exact Gc
     ·repeat refine de ?_
      exact Gc
    ·have hi':fields.length<=i:=K0▸dq hc;clear hc hi' hi;apply aZ<;>intro hc
     ·exact Vx
     ·have XH:fields.length<=32:=K0▸dq (a:=32) hc;repeat refine de ?_
      have e:lm (.mk 8 [] [] [J] fields)=false:=by rw[lm,decide_eq_false om];rfl
      rw[e];refine cD (dB:=[(1,.bp 0 0),(6,bW 0)]) ?_;refine cd.iter (fun i:Nat=>[(1,.bp 0 0),(6,bW i)]) (fun _=>[.box (qk 8 [] [] (.ps G D 5 l [z]) (.ps d c 7 b zI))]) (fun i=>fields.length-i) (fun i=>i<=fields.length) ?_ 0 (abK _);intro i hi;apply aZ<;>intro hc
      ·exact Sh
      ·clear hc hi;refine cD (dB:=[(1,.bp 0 0),(7,bW 1)]) ?_;refine cd.iter (fun i:Nat=>[(1,.bp 0 0),(7,bW i)]) (fun _=>[.box (qk 8 [] [] (.ps G D 5 l [z]) (.ps d c 7 b zI))]) (fun i=>fields.length-i) (fun i=>1<=i) ?_ 1 (abL _);exact Sb
 |ref w n=>
  rename_i B A args;have L:=(sV v).2;cases s with
  |mk j hf=>
   cases j with
   |nil=>
    rcases hf.cS with rfl|⟨d,c,b,rfl⟩
    ·refine cd.loop ?_;refine kJ B w ?_;refine fD A (oo n) ?_;rw[n];exact RQ
    ·refine cd.loop ?_;refine kJ B w ?_;refine fD A (oo n) ?_;rw[n];exact RQ
   |ps h K=>
    rename_i G D l M;have hal:=h.len;rcases hf.cS with rfl|⟨d,c,b,rfl⟩
    ·refine cd.loop ?_;apply aZ<;>intro hc
     ·exact Zm
     ·have XH:args.length<=8:=hal▸dq (a:=8) hc;have e:lm (.mk 10 B A args [])=false:=by rw[lm,decide_eq_false (p:=8<args.length) om];rfl
      rw[e];repeat refine de ?_
      refine kJ B w ?_;refine fD A (oo n) ?_;rw[n];exact RQ
    ·refine cd.loop ?_;apply aZ<;>intro hc
     ·exact Zm
     ·have XH:args.length<=8:=hal▸dq (a:=8) hc;have e:lm (.mk 10 B A args [])=false:=by rw[lm,decide_eq_false (p:=8<args.length) om];rfl
      rw[e];repeat refine de ?_
      refine kJ B w ?_;refine fD A (oo n) ?_;rw[n];exact RQ
theorem Nn(t:Ty)(b:cH)(a:eZ t b)(c:ol t)(d:ct t<4294967296){σ:VS}{K:cO->VS->Prop}(hk:K (.ret (bW (si (lm t)))) σ):bV C ca lK [.agg (b.map V.d)] σ K:=by
 have h0:=KP t b a c d;obtain⟨h,i,e,j,f,rfl⟩:=a.cZ;exact NE
theorem KQ(n:Nat)(J:∀(t:Ty) (w:cH),ct t<=n->eZ t w->ft t->∀{E:VS} {K:cO->VS->Prop},K (.ret (bW (si (ru t)))) E->bV C ca iY [.agg (w.map V.d)] E K) 
  (t:Ty) (w:cH) (A:ct t<=n+1) (m:n<4294967295) (v:eZ t w) (x:ft t):bV C ca iY [.agg (w.map V.d)] [] fun S D=>D=[]/\S=.ret (bW (si (ru t))):=by
 obtain⟨Y,g,H,U,X,rfl⟩:=v.cZ;have O:=eO t;cases x with
 |mk x i=>
 refine cm ?_;refine Nn t _ v x om ?_;rw[xK];cases W:lm t with
 |true=>
  refine a8 0 ⟨Z,Z⟩
 |false=>
  rw[Bool.false_or];refine ra t _ v om (fun w B=>?_);have z:cy (dD t)<=n:=om;generalize dD t=a at B z i;have L:=dA a;cases B with
  |nil=>
   refine cd.loop ?_;refine a8 0 ⟨Z,Z⟩
  |ps F=>
   rename_i Q M p s;have j:=F.len;refine cD (dB:=[(4,.d (.ps Q M 5 p s)),(5,bW 0)]) ?_;refine cd.iter (fun c:Nat=>[(4,.d (.ps Q M 5 p s)),(5,bW c)]) (fun _=>[.box (qk Y g H U X)]) (fun c=>a.length-c) (fun c=>c<=a.length/\∀e (f:e<a.length),e<c->ru a[e]=false) ?_ 0 ⟨abK _,fun e _ F=>absurd F (Nat.not_lt_zero _)⟩;rintro c ⟨k,h⟩;apply aZ<;>intro G
   ·have d:c<a.length:=j▸ee G;obtain⟨w,I,u⟩:=F.get d;refine bZ Z ?_;obtain⟨o,T,N,q,f2,rfl⟩:=u.cZ;refine cc _ (by rw[ck];exact I) ?_;have b:a[c]∈a:=aeu d;have R:=dJ b;refine J a[c] _ om u (i _ b) ?_;cases l:ru a[c]with
    |true=>
     rw[Dz b l];refine a8 0 ⟨Z,Z⟩
    |false=>
     refine⟨c+1,⟨d,fun e f F=>?_⟩,iK,.eD 1,Z,Z⟩;rcases Nat.lt_or_ge e c with h1|h1
     ·exact h e f h1
     ·obtain rfl:e=c:=om;exact l
   ·have d:a.length<=c:=j▸dq G;have y:oW a=false:=vd.2 fun t A=>by
     obtain⟨e,f,rfl⟩:=List.getElem_of_mem A;exact h e f om
    rw[y];refine a8 0 ⟨Z,Z⟩
theorem No:∀(d:Nat) (a:Ty) (b:cH),d<4294967295->ct a<=d->eZ a b->ft a->∀{c:VS} {h:cO->VS->Prop},h (.ret (bW (si (ru a)))) c->bV C ca iY [.agg (b.map V.d)] c h:=by
 intro d;induction d with
 |zero=>intro a b _ p;have:=gO a;omega
 |succ d i=>
  intro a b t p e f c h hk;have h0:=KQ d (fun a b l j n=>i a b om l j n) a b p om e f;obtain⟨v,w,s,x,u,rfl⟩:=e.cZ;exact NE
theorem H0(t:Ty)(n:cH)(a:eZ t n)(l:ft t)(d:ct t<4294967295):bV C ca kU [.agg (n.map V.d)] [] fun p i=>i=[]/\p=.ret (bW (si (k6 t))):=by
 obtain⟨v,w,s,j,u,rfl⟩:=a.cZ;refine cm ?_;refine kx _ t _ d (abL _) a ?_;apply aZ<;>intro f
 ·have c:=ee (a:=4096) f;repeat refine de ?_
  refine a8 0 ⟨Z,by rw[k6,decide_eq_true c,aeT,aeT];rfl⟩
 ·have c:=dq (a:=4096) f;repeat refine de ?_
  refine KN _ t _ d (abL _) a ?_;repeat refine de ?_
  apply aZ<;>intro e
  ·have b:=ee (a:=32) e;repeat refine de ?_
   refine a8 0 ⟨Z,by rw[k6,decide_eq_true b,Bool.or_true,aeT];rfl⟩
  ·have b:=dq (a:=32) e;repeat refine de ?_
   have h:k6 t=ru t:=by rw[k6,decide_eq_false om,decide_eq_false om];rfl
   rw[h];refine No _ t _ d (abL _) a l ?_;refine a8 0 ⟨Z,Z⟩
theorem vu(t:Ty)(b:cH)(a:eZ t b)(c:ft t)(d:ct t<4294967295){σ:VS}{K:cO->VS->Prop}(hk:K (.ret (bW (si (k6 t)))) σ):bV C ca kU [.agg (b.map V.d)] σ K:=by
 have h0:=H0 t b a c d;obtain⟨h,i,e,j,f,rfl⟩:=a.cZ;exact NE
def aek:Prop:=∀(b:Ex) (c:cH),je b c->ej b->cP b<4294967295->∀(a:VS) (d:cO->VS->Prop),d (.ret (bW (r9 b))) a->bV C ca rl [.agg (c.map V.d)] a d
theorem DS{l:List hZ}{a:Nat}(h:a<l.length):(l.take (a+1)).map hZ.ty=(l.take a).map hZ.ty++[l[a].ty]:=by
 exact XV
def adk:Nat->Bool:=fun a=>Nat.beq a 26
theorem H2(E:Nat)(K n I:cq)(h:Int)(types:List Ty)(a:List hZ)(L N u:D)(R:fA types L)(i:eR a N)(U:types.length+a.length<4294967296):
  bV C ca n8 [Ua E K n I h L N u] [] fun S M=>M=[]/\cM S=true/\∃F,Ii (types++if E=8 then a.map hZ.ty else []) F/\S=.ret (.d F):=by
 refine cv adk (fun _=>Z) ?_;cases R with
 |nil=>
  refine a6 ⟨Z,Z,abL _,abL _,aeN Z,aeN Z⟩ ?_;refine cg Z ?_;apply aZ<;>intro w
  ·have c:=AJ (b:=8) w;repeat refine de ?_
   rw[if_pos c];cases i with
   |nil=>
    refine cd.loop ?_;refine jw (els:=[]) 0 _ sm ?_ ?_
    ·exact Z
    ·simpa using dz.nil
   |ps i=>
    rename_i x v d e;have l:=i.len;refine cw (dB:=Z0 (0,[])) (fU:=ZZ (ky E K n I h .ci (.ps x v 8 d e) u) []) .eS ?_;refine cd.iter Z0 (fun t=>ZZ (ky E K n I h .ci (.ps x v 8 d e) u) t.2) (fun t=>a.length-t.1) (fun t=>t.1<=a.length/\dz ([]++(a.take t.1).map hZ.ty) t.2) ?_ (0,[]) ⟨abK _,by simpa using dz.nil⟩;rintro⟨j,acc⟩ ⟨y,rb⟩;have y:j<=a.length:=y;have rb:dz ([]++(a.take j).map hZ.ty) acc:=rb;have s:=rb.len;rw[aeM,aeQ,aeP]at s;try simp only[aet]at s
    apply aZ<;>intro z
    ·have lU:j<a.length:=l▸ee z;obtain⟨F,hx,vy⟩:=i.get lU;have xX:dz ([]++(a.take (j+1)).map hZ.ty) (acc++[F]):=by rw[DS lU,<-aeO];exact rb.snoc vy
     exact Yn
    ·have lU:a.length<=j:=l▸dq z;exact R4
  ·have c:=ED (b:=8) w;repeat refine de ?_
   rw[if_neg c,List.append_nil];refine jw (els:=[]) 0 _ sm ?_ ?_
   ·exact Z
   ·simpa using dz.nil
 |ps Q H=>
  rename_i G T A p;cases p with
  |nil=>exact absurd rfl H
  |cons f b=>
   have P:=Q.len;have B:b.length+1<4294967296:=by simp only[aeS]at P;omega
   refine a6 Z (a6 ⟨Z,Z,abL _,abL _,vZ f b B⟩ ?_);refine a7 Z (a7 Z ?_);apply aZ<;>intro w
   ·have c:=AJ (b:=8) w;repeat refine de ?_
    rw[if_pos c];cases i with
    |nil=>
     refine cd.loop ?_;refine jw (els:=(f::b)) 1 _ sm ?_ ?_
     ·exact Z
     ·simpa using Q
    |ps i=>
     rename_i x v d e;have l:=i.len;refine cw (dB:=Z0 (0,(f::b))) (fU:=ZZ (ky E K n I h (.ps G T 5 A (f::b)) (.ps x v 8 d e) u) (f::b)) (.pick 1 [0,2] ⟨Z,ON 2 (f::b),Z,tv⟩ Z Z Z Z Z dc ⟨Z,Z,xL f b,jv _ _ _,tv⟩) ?_;refine cd.iter Z0 (fun t=>ZZ (ky E K n I h (.ps G T 5 A (f::b)) (.ps x v 8 d e) u) t.2) (fun t=>a.length-t.1) (fun t=>t.1<=a.length/\dz (types++(a.take t.1).map hZ.ty) t.2) ?_ (0,(f::b)) ⟨abK _,by simpa using Q⟩;rintro⟨j,acc⟩ ⟨y,rb⟩;have y:j<=a.length:=y;have rb:dz (types++(a.take j).map hZ.ty) acc:=rb;have s:=rb.len;rw[aeM,aeQ,aeP]at s;try simp only[aet]at s
     apply aZ<;>intro z
     ·have lU:j<a.length:=l▸ee z;obtain⟨F,hx,vy⟩:=i.get lU;have xX:dz (types++(a.take (j+1)).map hZ.ty) (acc++[F]):=by rw[DS lU,<-aeO];exact rb.snoc vy
      exact Yn
     ·have lU:a.length<=j:=l▸dq z;exact R4
   ·have c:=ED (b:=8) w;repeat refine de ?_
    rw[if_neg c,List.append_nil];refine jw (els:=(f::b)) 1 _ sm ?_ ?_
    ·exact Z
    ·simpa using Q
theorem vv{e:Ex}{d:cH}(h:je e d)(s:∀f v t l b types a c,e=.mk f v t l b types a c->types.length+a.length<4294967296){σ:VS}{K:cO->VS->Prop}(n:∀d,Ii (k7 e) d->K (.ret (.d d)) σ):bV C ca n8 [.agg (d.map V.d)] σ K:=by
 cases h with
 |mk i u z=>
  rename_i f v t l b types a c w x j;have p:=s _ _ _ _ _ _ _ _ rfl;exact bV.closed (P:=fun y=>∃d,Ii (types++if f=8 then a.map hZ.ty else []) d/\y=.ret (.d d)) (H2 f v t l b types a w x j i u p) Z (fun y ⟨d,A,e⟩=>by rw[e];exact n d A)
theorem EY(n:Nat)(F:∀(h:Ex) (i:cH),cP h<=n->je h i->∀{u:VS} {G:cO->VS->Prop},G (.ret (bW (mG h))) u->bV C ca gj [.agg (i.map V.d)] u G) 
  (h:Ex) (i:cH) (k:cP h<=n+1) (o:n<4294967295) (x:je h i):bV C ca gj [.agg (i.map V.d)] [] fun y c=>c=[]/\y=.ret (bW (mG h)):=by
 have l:=fJ h;rw[Av];cases x with
 |mk R X t=>
  rename_i W g z U p types j a B D9 T;have J:cQ a<=n:=by simp only[Ex.kids]at l;omega
  show bV C ca gj [.agg _] [] fun y c=>c=[]/\y=.ret (bW (gu a+1));have I:=ju a;refine cm ?_;cases t with
  |nil=>
   exact oy
  |ps N=>
   rename_i Y S s v;have e:=N.len;refine cD (dB:=[(1,.bp 0 0),(3,bW 0),(4,bW 0)]) ?_;refine cd.iter (fun d:Nat=>[(1,.bp 0 0),(3,bW (gu (a.take d))),(4,bW d)]) (fun _=>[.box (ky W g z U p B D9 (.ps Y S 8 s v))]) (fun d=>a.length-d) (fun d=>d<=a.length) ?_ 0 (abK _);intro d m;apply aZ<;>intro w
   ·have b:d<a.length:=e▸ee w;obtain⟨i,E,f⟩:=N.get b;refine bZ Z ?_;obtain⟨r,Q,aa,q,A,O,M,H,rfl⟩:=f.eight;refine cc _ (by rw[ck];exact E) ?_;have P:=j7 (aeu b);refine F a[d] _ om f ?_;refine⟨d+1,b,iK,.drop 1 ⟨Z,int_eq ?_,int_eq (cp om),tv⟩ Z Z Z Z Z Z Z,Z,Z⟩;rw[zs b];exact Fe
   ·have b:a.length<=d:=e▸dq w;rw[aev b];have L:=DB a;exact XI
theorem H3:∀(d:Nat) (a:Ex) (c:cH),d<4294967295->cP a<=d->je a c->∀{b:VS} {f:cO->VS->Prop},f (.ret (bW (mG a))) b->bV C ca gj [.agg (c.map V.d)] b f:=by
 intro d;induction d with
 |zero=>intro a c _ t;have:=gP a;omega
 |succ d n=>
  intro a c x t e b f i;obtain⟨y,v,z,w,l,u,s,p,rfl⟩:=e.eight;exact cC (EY d (fun a c j h=>n a c om j h) a _ t om e) Z Z i
theorem H4(n:Nat)(ih:∀(e:Ex) (d:cH),cP e<=n->ej e->je e d->∀{I:VS} {M:cO->VS->Prop},M (.ret (bW (cP e))) I->bV C ca iZ [.agg (d.map V.d)] I M) 
  (e:Ex) (d:cH) (K:cP e<=n+1) (S:n<4294967294) (w:ej e) (s:je e d):bV C ca iZ [.agg (d.map V.d)] [] fun R H=>H=[]/\R=.ret (bW (cP e)):=by
 have t:=fJ e;have l:=fun F G n E c types f kids (L:e=.mk F G n E c types f kids)=>wb w L om;have hkg:=w.kids;obtain⟨F,G,x,E,c,y,z,D,rfl⟩:=s.eight;refine cm ?_;refine vv s l (fun d u=>?_);have j:fR e.kids D:=by cases s;assumption
 have p:cy (k7 e)+cQ e.kids<=n:=om;rw[t];generalize k7 e=own at u p;generalize e.kids=kids at j p hkg;clear s w t K l;have N:=ju kids;have O:=dA own;have J:∀{Q:Prop},Q->Q:=fun h=>h;cases u with
 |nil=>
  refine cd.loop ?_;cases j with
  |nil=>
   exact oy
  |ps h=>
   rename_i B A a b;have Bm:=h.len;refine cD (dB:=[(1,.bp 0 0),(3,bW (1+cy []+0)),(6,bW 0)]) ?_;refine cd.iter (fun i:Nat=>[(1,.bp 0 0),(3,bW (1+cy []+cQ (kids.take i))),(6,bW i)]) (fun _=>[.box (ky F G x E c y z (.ps B A 8 a b))]) (fun i=>kids.length-i) (fun i=>i<=kids.length) ?_ 0 (abK _);exact Yg
 |ps h=>
  rename_i B A a b;have Bm:=h.len;refine cD (dB:=[(1,.bp 0 0),(3,bW (1+0)),(4,.d (.ps B A 5 a b)),(5,bW 0)]) ?_;refine cd.iter (fun i:Nat=>[(1,.bp 0 0),(3,bW (1+cy (own.take i))),(4,.d (.ps B A 5 a b)),(5,bW i)]) (fun _=>[.box (ky F G x E c y z D)]) (fun i=>own.length-i) (fun i=>i<=own.length) ?_ 0 (abK _);intro i hi;apply aZ<;>intro hc
  ·have hi':i<own.length:=Bm▸ee hc;obtain⟨d,hx,vy⟩:=h.get hi';refine bZ Z ?_;obtain⟨k2,m2,P,T,f2,rfl⟩:=vy.cZ;refine cc _ (by rw[ck];exact hx) ?_;have hle:=dJ (aeu hi');refine kx _ own[i] _ om (abL _) vy ?_;refine⟨i+1,hi',iK,.drop 1 ⟨Z,int_eq ?_,Z,int_eq (cp om),tv⟩ Z Z Z Z Z Z Z,Z,Z⟩;have h3:=mE own i;rw[qZ hi',<-Nat.add_assoc];exact c4 om
  ·have hi':own.length<=i:=Bm▸dq hc;rw[aev hi'];cases j with
   |nil=>
    exact oy
   |ps h=>
    rename_i B A a b;have Bm:=h.len;refine cD (dB:=[(1,.bp 0 0),(3,bW (1+cy own+0)),(6,bW 0)]) ?_;refine cd.iter (fun i:Nat=>[(1,.bp 0 0),(3,bW (1+cy own+cQ (kids.take i))),(6,bW i)]) (fun _=>[.box (ky F G x E c y z (.ps B A 8 a b))]) (fun i=>kids.length-i) (fun i=>i<=kids.length) ?_ 0 (abK _);exact Yg
theorem vw:∀(d:Nat) (a:Ex) (c:cH),d<4294967295->cP a<=d->ej a->je a c->∀{b:VS} {f:cO->VS->Prop},f (.ret (bW (cP a))) b->bV C ca iZ [.agg (c.map V.d)] b f:=by
 intro d;induction d with
 |zero=>intro a c _ v;have:=gP a;omega
 |succ d s=>
  intro a c z v i e b f j;obtain⟨A,x,B,y,n,w,u,t,rfl⟩:=e.eight;exact cC (H4 d (fun a c l h p=>s a c om l h p) a _ v om i e) Z Z j
end Go.Proofs.YtpejealjkmhkgaaGreatDoor
