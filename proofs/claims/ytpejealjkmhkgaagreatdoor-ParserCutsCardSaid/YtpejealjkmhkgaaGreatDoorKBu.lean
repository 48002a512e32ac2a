/- Part of the proof. -/
import Derived.Test.YtpejealjkmhkgaaGreatDoorKBt
set_option linter.all false
set_option maxHeartbeats 16000000
set_option maxRecDepth 100000
open Nat renaming le_succ->YL,le_refl->YM,zero_le->YP,lt_or_ge->YQ
open List renaming length_nil->YN,length_cons->YO,mem_singleton->YR
namespace Go.Proofs.YtpejealjkmhkgaaGreatDoor
open Go.AM Go.VM
variable{g:kA} {h i:Bool} {d:List UInt8}
section
variable{R:Rd} (w:R.Wf) (mI:R.Nm)
include w mI
theorem QR{ty:Nat->PR Ty}(m:Good ty R 0)(I:(i=true->h=true)/\(d≠[]->i=true)){p q:Nat}(Y:p<R.ts.length)(e:hM ty R h i d p=.ok g q):zc g/\hF g+p<=q/\q<R.ts.length:=by
 rw[hM]at e;split at e
 ·cases e
 ·rename_i ab U L;obtain⟨E,rfl,v⟩:=E8 w mI L;split at e
  ·cases e
  ·rename_i j af G;obtain⟨f,y,ae,J⟩:=Df w (P:=fun Q=>∀c∈Q,c.b=c1/\c.vr<=2/\dB c.n=true) (M:=List.length) (Vh w mI) v (fun c a=>by cases a) G;simp only[YN]at y;split at e
   ·cases e
   ·rename_i lo V M;obtain⟨B,O,X,z⟩:=QP w m (NI w mI) J M;split at e
    ·cases e
    ·rename_i up ac N;obtain⟨C,F,aa,K⟩:=QP w m (pn w mI) z N;obtain⟨u,l,rfl⟩:=du e;obtain⟨x,l⟩:=oq w K l;obtain⟨r,T,S,H⟩:=m _ _ _ (YP _) x l;have D:cJ uz=1:=rfl;have A:cJ c1=1:=rfl;refine⟨⟨?_,?_,r,QQ w mI,fun c a=>⟨by rw[(f c a).1];exact pn w mI,(f c a).2.2⟩,?_,I,.inl ⟨rfl,E,rfl,rfl,rfl,fun c a=>⟨(f c a).1,(f c a).2.1⟩⟩⟩,?_,H⟩
     ·show gu (if lo.1||up.1 then lo.2 else u);split
      ·exact B
      ·exact r
     ·show gu (if lo.1||up.1 then up.2 else u);split
      ·exact C
      ·exact r
     ·have:=w.len;show j.length<4294967296;omega
     ·by_cases b:(lo.1||up.1)=true
      ·rw[if_pos b,if_pos b];have k:hF ⟨0,ab,h,i,d,j,lo.2,up.2,u,qa,[],[]⟩<=1+j.length+(cJ u+(cJ lo.2+cJ up.2)):=by
        rw[hF,if_pos rfl];split
        ·simp only[];omega
        ·exact YM _
       rcases O with⟨t,o,ad⟩|⟨t,o⟩<;>rcases F with⟨s,n,W⟩|⟨s,n⟩
       ·rw[t,s]at b;cases b
       ·rw[o,D]at k;rw[o];omega
       ·rw[n,A]at k;rw[n];omega
       ·omega
      ·rw[if_neg b,if_neg b];rw[HE rfl ⟨rfl,rfl⟩];show 1+j.length+cJ u+p<=q;omega
theorem QS{ty:Nat->PR Ty}(l:Good ty R 0){ex:Nat->PR Ex}(a:eT ex R 0)(y:(i=true->h=true)/\(d≠[]->i=true)){p q:Nat}(H:p<R.ts.length)(c:iX ty ex R h i d p=.ok g q):zc g/\hF g+p<=q/\q<R.ts.length:=by
 rw[iX]at c;split at c
 ·cases c
 ·rename_i O F B;obtain⟨u,rfl,n⟩:=E9 w mI B;split at c
  ·cases c
  ·rename_i j L v;obtain⟨f,r,J,A⟩:=Df w (P:=fun m=>∀b∈m,gu b.b/\b.vr=0/\dB b.n=true) (M:=fun m=>m.length+mu m) (Vi w mI l) n (fun b a=>by cases a) v;simp only[YN,mu]at r;split at c
   ·cases c
   ·rename_i K G k;obtain⟨t,k⟩:=oq w A k;obtain⟨z,E,M,x⟩:=l _ _ _ (YP _) t k;obtain⟨b,e,rfl⟩:=du c;obtain⟨o,e⟩:=oq w x e;obtain⟨C,I,D,s⟩:=a _ _ _ (YP _) o e;refine⟨⟨pn w mI,pn w mI,z,C,fun b a=>⟨(f b a).1,(f b a).2.2⟩,?_,y,.inr (.inl ⟨Z,u,Z,Z,Z,Z,fun b a=>(f b a).2.1⟩)⟩,?_,s⟩
    ·have:=w.len;show j.length<4294967296;omega
    ·rw[x4 rfl];show 1+j.length+(cJ K+da b+mu j)+p<=q;omega
theorem Dg{p q:Nat}(a:gb R p=.ok d q):(cM d=true∨dB d=true)/\q=p+1/\q<R.ts.length:=by
 rw[gb]at a;split at a
 ·obtain⟨b,e,c⟩:=E8 w mI a;exact⟨.inr b,e,c⟩
 ·obtain⟨b,e,c⟩:=E9 w mI a;exact⟨.inl b,e,c⟩
theorem QT(m:(i=true->h=true)/\(d≠[]->i=true)){p q:Nat}(u:p<R.ts.length)(c:ie R h i d p=.ok g q):zc g/\hF g+p<=q/\q<R.ts.length:=by
 rw[ie]at c;split at c
 ·cases c
 ·rename_i A t r;obtain⟨l,rfl,j⟩:=E9 w mI r;split at c
  ·cases c
  ·rename_i v x a;obtain⟨f,a⟩:=oq w j a;obtain⟨k,rfl,f⟩:=Dg w mI a;obtain⟨z,b,rfl⟩:=du c;obtain⟨e,b⟩:=oq w f b;obtain⟨n,rfl,e⟩:=Dg w mI b;refine⟨⟨pn w mI,pn w mI,pn w mI,QQ w mI,(fun y o=>by cases o),(by show 0<4294967296;decide),m,.inr (.inr ⟨rfl,rfl,rfl,rfl,rfl,rfl,l,n,k⟩)⟩,?_,e⟩;rw[hF,if_neg (fun s=>by cases s),if_neg (fun s=>by cases s)];show 1+0+0+p<=_;omega
theorem Tb{p q:Nat}{a:Bool×Bool×List UInt8}(e:p<R.ts.length)(c:kf R p=.ok a q):((a.2.1=true->a.1=true)/\(a.2.2≠[]->a.2.1=true))/\p<=q/\q<R.ts.length:=by
 rw[kf]at c;split at c
 ·rename_i j;have b:=w.step e j;split at c
  ·rename_i f;have k:=w.step b f;obtain⟨s,l,rfl⟩:=du c;obtain⟨n,m⟩:=iM w dc k l;exact⟨⟨fun _=>Z,fun _=>Z⟩,om,m⟩
  ·cases c;exact⟨⟨fun _=>rfl,fun a=>absurd rfl a⟩,om,b⟩
 ·cases c;exact⟨⟨fun a=>a,fun a=>absurd rfl a⟩,YM _,e⟩
theorem Tc{ty:Nat->PR Ty}(k:Good ty R 0){ex:Nat->PR Ex}(n:eT ex R 0){p q:Nat}(l:p<R.ts.length)(e:eS ty ex R p=.ok g q):zc g/\hF g+p<=q/\q<R.ts.length:=by
 rw[eS]at e;split at e
 ·cases e
 ·rename_i r s m;obtain⟨f,t,b⟩:=Tb w mI l m;split at e
  ·rename_i a;obtain⟨j,o,c⟩:=QR w mI k f (w.step b a) e;exact⟨j,om,c⟩
  ·split at e
   ·rename_i a;obtain⟨j,o,c⟩:=QS w mI k n f (w.step b a) e;exact⟨j,om,c⟩
   ·split at e
    ·rename_i a;obtain⟨j,o,c⟩:=QT w mI f (w.step b a) e;exact⟨j,om,c⟩
    ·cases e
theorem Lu{p q:Nat}{s:List UInt8}(b:R.ts.length<=65537)(c:p<R.ts.length)(a:fT R p=.ok s q):gB s=true/\p<q/\q<R.ts.length:=by
 obtain⟨j,f⟩:=(vj w mI b).lt _ _ _ c a;refine⟨?_,j,f⟩;rw[fT]at a;split at a
 ·cases a
 ·split at a
  ·cases a
  ·split at a
   ·rename_i e;cases a;exact e
   ·cases a
theorem Kg(l:R.ts.length<=65537):∀(p:Nat) (o:List sL) (k:Nat) (a:List sL) (q:Nat),k<R.ts.length->(∀f∈o,gB f.p=true/\cM f.a=true)->eK R p o k=.ok a q->(∀f∈a,gB f.p=true/\cM f.a=true)/\a.length+k<=o.length+q/\q<R.ts.length:=by
 intro p;induction p with
 |zero=>intro o k a q _ _ e;cases e
 |succ p A=>
  intro o k a q m n e;rw[eK]at e;split at e
  ·rename_i v;split at e
   ·cases e
   ·rename_i H D b;rw[fR]at b;split at b
    ·cases b
    ·rename_i s E y;obtain⟨C,G,c⟩:=Lu w mI l (w.step m v) y;obtain⟨F,j,rfl⟩:=du b;obtain⟨B,j⟩:=oq w c j;obtain⟨x,rfl,r⟩:=E9 w mI j;obtain⟨u,z,t⟩:=A _ _ _ _ r (fun f hx=>by
      rcases List.mem_append.1 hx with hx|hx
      ·exact n f hx
      ·rw[YR]at hx;subst hx;exact⟨C,x⟩) e
     simp only[List.length_append,YO,YN]at z;exact⟨u,om,t⟩
  ·cases e;exact⟨n,YM _,m⟩
theorem QU{ty:Nat->PR Ty}(s:Good ty R 0){ex:Nat->PR Ex}(hx:eT ex R 0):∀(o:Nat) (f:List kA) (a:List Nat) (k:Nat) (e:List kA×List Nat) (q:Nat),k<R.ts.length->(∀j∈f,zc j)->a.length=f.length->fX ty ex R o f a k=.ok e q->(∀j∈e.1,zc j)/\e.2.length=e.1.length/\jf e.1+k<=jf f+q/\q<R.ts.length:=by
 intro o;induction o with
 |zero=>intro f a k e q _ _ _ b;cases b
 |succ o x=>
  intro f a k e q l n m b;rw[fX]at b;split at b
  ·split at b
   ·cases b
   ·rename_i y A v;obtain⟨z,B,c⟩:=Tc w mI s hx l v;obtain⟨r,u,p,t⟩:=x _ _ _ _ _ c (fun j hx=>by
      rcases List.mem_append.1 hx with hx|hx
      ·exact n j hx
      ·rw[YR]at hx;subst hx;exact z) (by simp[m]) b
    rw[Bs,show jf [y]=hF y by simp[jf]]at p;exact⟨r,u,om,t⟩
  ·cases b;exact⟨n,m,YM _,l⟩
theorem Vj{ty:Nat->PR Ty}(k:Good ty R 0){ex:Nat->PR Ex}(a:eT ex R 0)(A:R.ts.length<=4097){p q:Nat}{e:Fh×List Nat}(n:p<R.ts.length)(c:ow ty ex R p=.ok e q):S1 e.1/\e.2.length=e.1.ds.length/\q<R.ts.length:=by
 rw[ow]at c;split at c
 ·cases c
 ·rename_i s C b;obtain⟨f,b⟩:=oq w n b;obtain⟨x,F,o⟩:=Lu w mI om f b;split at c
  ·cases c
  ·rename_i u D v;obtain⟨l,j,r⟩:=Kg w mI om _ _ _ _ _ o (fun B a=>by cases a) v;obtain⟨E,y,rfl⟩:=du c;obtain⟨m,t,d4,z⟩:=QU w mI k a _ _ _ _ _ _ r (fun B a=>by cases a) rfl y;simp only[YN]at j;have G:jf []=0:=rfl;refine⟨⟨?_,x,l,m⟩,t,z⟩;show 1+u.length+jf E.1<=4096;omega
end
theorem NJ(e:List UInt8)(k:∀ts,gk e=.ok ts->ts.length<=4097){c:VS}{l:dC->VS->Prop}(f:∀m,QO e m->l m c):b1 C b7 rl [cq e] c l:=by
 refine b1.closed (Kf e fun ts p q b j=>?_) Z f;obtain⟨w,a⟩:=mn (R:=⟨0,0,ts⟩) b;have mI:=qc (R:=⟨0,0,ts⟩) b;obtain⟨o,n,_⟩:=Vj w mI (qd w mI _) (Bg w mI _ 0) (k _ b) a j;exact⟨o,n⟩
structure Dh (R R':Rd) (P:Nat):Prop where
 eq:∀p,p<P->R.tok p=R'.tok p
 len:R'.ts.length=P+1
 le:P<R.ts.length
 fin:(R'.tok P).kind=0
 w:R'.Wf
def Td{α:Type}(R:Rd)(p:Nat):PR α->Prop
 |.ok _ q=>p<=q/\q<R.ts.length
 |.bad c b=>b≠3∨∃a,p<=a/\a<R.ts.length/\c=(R.tok a).off
def QV{α:Type}(b P:Nat):PR α->Prop
 |.ok _ q=>q<P
 |.bad c a=>a=3/\c<b
def dP{α:Type}(R R':Rd)(P p:Nat)(b a:PR α):Prop:=Td R' p a/\(p<P->QV (R'.tok P).off P a->b=a)
theorem Td.up{α:Type}{R:Rd}{p p':Nat}{b:PR α}(e:Td R p' b)(a:p<=p'):Td R p b:=by
 cases b with
 |ok f q=>exact⟨Nat.le_trans a e.1,e.2⟩
 |bad l m=>exact e.imp id fun⟨k,f,j,c⟩=>⟨k,Nat.le_trans a f,j,c⟩
theorem Td.tok{α:Type}{R:Rd}{p a:Nat}(b:p<R.ts.length):Td R p (.bad (R.tok p).off a:PR α):=.inr ⟨p,YM _,b,rfl⟩
section
variable{R R':Rd} {P:Nat} (c:Dh R R' P) {α β:Type}
include c
theorem Dh.late{p:Nat}{e:PR α}(k:P<=p)(b:Td R' p e):¬QV (R'.tok P).off P e:=by
 have l:=c.len;cases e with
 |ok n q=>intro(o:q<P);have:=b.1;omega
 |bad s o=>
  intro⟨f,a⟩;rcases b with b|⟨m,n,r,j⟩
  ·exact b f
  ·have:m=P:=om;rw[j,this]at a;exact Nat.lt_irrefl _ a
theorem dP.up{p p':Nat}{k e:PR α}(j:dP R R' P p' k e)(f:p<=p'):dP R R' P p k e:=by
 refine⟨j.1.up f,fun l b=>?_⟩;rcases YQ p' P with a|a
 ·exact j.2 a b
 ·exact absurd b (c.late a j.1)
theorem dP.late{p:Nat}{c a:PR α}(b:P<=p)(e:Td R' p a):dP R R' P p c a:=⟨e,fun f _=>om⟩
theorem dP.map{p:Nat}{f a:PR α}(k:dP R R' P p f a){j:α->β}:dP R R' P p (f.map j) (a.map j):=by
 refine⟨?_,fun c b=>?_⟩
 ·have:=k.1;cases a with
  |ok l q=>exact this
  |bad m n=>exact this
 ·have e:QV (R'.tok P).off P a:=by cases a with
   |ok l q=>exact b
   |bad m n=>exact b
  rw[k.2 c e]
theorem dP.cs{p:Nat}{t j:PR α}{s l:PR β}{f f':α->Nat->PR β}(A:dP R R' P p t j)(u:∀a q,j=.ok a q->p<=q->q<R'.ts.length->dP R R' P q (f a q) (f' a q)) 
  (y:∀o e,t=.bad o e->s=.bad o e:=by intro o e hx;rw[hx]) (n:∀o e,j=.bad o e->l=.bad o e:=by intro o e hx;rw[hx])
  (v:∀a q,t=.ok a q->s=f a q:=by intro a q hx;rw[hx]) (m:∀a q,j=.ok a q->l=f' a q:=by intro a q hx;rw[hx]):dP R R' P p s l:=by
 rcases A with⟨b,r⟩;cases hx:j with
 |bad o e=>
  rw[n _ _ hx];rw[hx]at b;refine⟨b,fun a x=>?_⟩;have:=r a (by rw[hx];exact x);rw[hx]at this;rw[y _ _ this]
 |ok a q=>
  rw[hx]at b;have w:=u a q hx b.1 b.2;rw[m _ _ hx];refine⟨w.1.up b.1,fun x z=>?_⟩;rcases YQ q P with k|k
  ·have:=r x (by rw[hx];exact k);rw[hx]at this;rw[v _ _ this];exact w.2 k z
  ·exact absurd z (c.late k w.1)
theorem dh{p:Nat}{e c a:PR α}(b:p<P->e=c)(f:dP R R' P p c a):dP R R' P p e a:=⟨f.1,fun j k=>by rw[b j];exact f.2 j k⟩
omit c in
theorem nq{p:Nat}{b:Prop}[Decidable b]{l k e c:PR α}(j:b->dP R R' P p l e)(f:¬b->dP R R' P p k c):dP R R' P p (if b then l else k) (if b then e else c):=by
 by_cases a:b
 ·rw[if_pos a,if_pos a];exact j a
 ·rw[if_neg a,if_neg a];exact f a
theorem dP.ok{p q:Nat}{b:α}(c:p<=q)(a:q<R'.ts.length):dP R R' P p (.ok b q) (.ok b q):=⟨⟨c,a⟩,fun _ _=>rfl⟩
theorem dP.tok{p a:Nat}(b:p<R'.ts.length):dP R R' P p (.bad (R'.tok p).off a:PR α) (.bad (R'.tok p).off a):=⟨Td.tok b,fun _ _=>rfl⟩
theorem Vk{p o e b a:Nat}(c:e≠3)(f:a≠3):dP R R' P p (.bad b a:PR α) (.bad o e):=⟨.inl c,fun _ j=>absurd j.1 c⟩
omit c in
theorem Dh.step(c:Dh R R' P){p:Nat}{b:List UInt8}(a:p<R'.ts.length)(ht:c0 (R'.tok p) b=true):p+1<R'.ts.length:=c.w.step a ht
omit c in
theorem Dh.go(c:Dh R R' P){p:Nat}(a:p<R'.ts.length)(ht:(R'.tok p).kind≠0):p+1<R'.ts.length:=c.w.go p _ (bZ a) ht
theorem ot{k p:Nat}(e:k≠0)(b:p<R'.ts.length):dP R R' P p (hS k R p) (hS k R' p):=by
 rw[hS,hS];refine dh c (fun a=>by rw[c.eq p a]) ?_;split
 ·exact dP.tok c b
 ·rename_i f;exact dP.ok c (YL _) (c.go b om)
theorem hG{p:Nat}(a:p<R'.ts.length):dP R R' P p (c9 R p) (c9 R' p):=ot c (k:=1) dc a
theorem fD(e:List UInt8){p:Nat}(f:p<R'.ts.length):dP R R' P p (cu R [e] p) (cu R' [e] p):=by
 rw[cu,cu,cu,cu];refine dh c (fun a=>by rw[c.eq p a]) ?_;split
 ·rename_i b;exact dP.ok c (YL _) (c.step f b)
 ·exact dP.tok c f
theorem l5{e b:Nat->PR α}(f:List UInt8){p:Nat}(n:p<R'.ts.length)(l:∀q,p<q->q<R'.ts.length->dP R R' P q (e q) (b q)):dP R R' P p (dA e R f p) (dA b R' f p):=by
 rw[dA,dA];refine(fD c f n).cs c (fun a q hx m k=>?_);have j:=cH _ _ _ hx;simp only[YO,YN]at j;exact l q om k
theorem Bv{p:Nat}(a:p<R'.ts.length):dP R R' P p (gb R p) (gb R' p):=by
 rw[gb,gb];rcases YQ p P with h1|h1
 ·rw[c.eq p h1];split
  ·exact ot c dc a
  ·exact hG c a
 ·refine dP.late c h1 ?_;split
  ·exact(ot c dc a).1
  ·exact(hG c a).1
end
section
variable{R R':Rd} {P:Nat} (c:Dh R R' P) {lo:Nat} {ty lC:Nat->PR Ty} (ht:∀q,lo<=q->q<R'.ts.length->dP R R' P q (ty q) (lC q))
include c ht
theorem Fa:∀(k b:Nat) (a:List Ty) (e:Nat),lo<=e->e<R'.ts.length->R.ts.length<=e+k->R'.ts.length<=e+b->dP R R' P e (dE ty R k a e) (dE lC R' b a e):=by
 have t:=c.len;have s:=c.le;intro k;induction k with
 |zero=>intro b a e l j o r;omega
 |succ k n=>
  intro b a e l j o r;rcases b with _|b
  ·omega
  rw[dE,dE];refine(ht e l j).cs c (fun u q hx m f=>?_);dsimp only;refine dh c (fun j=>by rw[c.eq q j]) ?_;split
  ·rename_i p;exact(n _ _ _ om (c.step f p) om om).up c (YL _)
  ·refine(fD c [93] f).cs c (fun w v hx m f=>?_);exact dP.ok c (YM _) f
theorem ya{p:Nat}(k:lo<=p)(f:p<R'.ts.length):dP R R' P p (hQ ty R p) (hQ lC R' p):=by
 have j:=c.len;have e:=c.le;rw[hQ,hQ];refine dh c (fun b=>by rw[c.eq p b]) ?_;split
 ·rename_i a;exact(Fa c ht _ _ _ _ om (c.step f a) om om).up c (YL _)
 ·exact dP.ok c (YM _) f
theorem nr{p:Nat}(k:lo<=p)(f:p<R'.ts.length):dP R R' P p (dv ty R p) (dv lC R' p):=by
 rw[dv,dv];refine(fD c [91] f).cs c (fun e q hx b a=>?_);dsimp only;refine(ht q om a).cs c (fun e j hx b a=>?_);dsimp only;refine(fD c [93] a).cs c (fun e q hx b a=>?_);exact dP.ok c (YM _) a
theorem Bw(k n:List UInt8)(l:Bool):∀(r f:Nat) (a:List mT) (e:Nat),lo<=e->e<R'.ts.length->R.ts.length<=e+r->R'.ts.length<=e+f->dP R R' P e (cO ty R k n l r a e) (cO lC R' k n l f a e):=by
 have H:=c.len;have C:=c.le;intro r;induction r with
 |zero=>intro f J e y b x;omega
 |succ r A=>
  intro f a e y b x G;rcases f with _|f
  ·omega
  rw[cO,cO];refine dh c (fun b=>by rw[c.eq e b]) ?_;split
  ·exact dP.tok c b
  rename_i E;have u:=c.go b om;split
  ·exact dP.tok c b
  refine dP.up c (p':=e+1) ?_ (YL _);refine dh c (fun b=>by rw[c.eq (e+1) b]) ?_;obtain⟨z,o⟩:∃z,(l&&c0 (R'.tok (e+1)) [63])=z:=⟨_,rfl⟩;rw[o];obtain⟨j,t,w⟩:∃j,(e+1<=j/\j<R'.ts.length)/\(if z=true then e+1+1 else e+1)=j:=by
   refine⟨_,?_,Z⟩;split
   ·rename_i p;rw[p,Bool.and_eq_true]at o;exact⟨om,c.step u o.2⟩
   ·exact⟨YM _,u⟩
  rw[w];refine dP.up c (p':=j) ?_ om;refine(fD c [58] t.2).cs c (fun D q hx s m=>?_);dsimp only;refine(ht q om m).cs c (fun D q hx s m=>?_);dsimp only;refine dh c (fun b=>by rw[c.eq q b]) ?_;split
  ·rename_i p;exact dP.ok c (YL _) (c.step m p)
  ·have I:=s;refine(fD c k m).cs c (fun D F hx B v=>?_);dsimp only;exact A _ _ _ om v om om
theorem s0(a e:List UInt8)(b:Bool){p:Nat}(k:lo<=p)(m:p<R'.ts.length):dP R R' P p (ey ty R a e b p) (ey lC R' a e b p):=by
 have n:=c.len;have l:=c.le;rw[ey,ey];refine dh c (fun j=>by rw[c.eq p j]) ?_;split
 ·rename_i f;exact dP.ok c (YL _) (c.step m f)
 ·exact(Bw c ht a e b _ _ _ _ k m om om).map c
theorem QW{p:Nat}(e:lo<=p+1)(o:p<R'.ts.length):dP R R' P p (eR ty R (R.tok p).kind (R.tok p).text (R.tok p).off (p+1)) (eR lC R' (R'.tok p).kind (R'.tok p).text (R'.tok p).off (p+1)):=by
 refine dh c (fun j=>by rw[c.eq p j]) ?_;have a:dP R R' P p (.bad (R'.tok p).off 3:PR Ty) (.bad (R'.tok p).off 3):=dP.tok c o;by_cases l:(R'.tok p).kind=0
 ·unfold eR;rw[if_neg om,if_neg om,if_neg om,if_neg om,if_neg om,if_neg om,if_neg om,if_neg om];exact a
 have b:=c.go o l;unfold eR;split
 ·split
  ·exact dP.ok c (YL _) b
  ·split
   ·exact((nr c ht e b).up c (YL _)).map c
   ·split
    ·refine dP.up c (p':=p+1) ?_ (YL _);refine(fD c [40] b).cs c (fun n q hx k f=>?_);dsimp only;refine(s0 c ht [44] [41] true (p:=q) om f).cs c (fun n q hx k f=>?_);dsimp only;exact(ht _ om f).map c
    ·exact a
 ·split
  ·split
   ·exact((s0 c ht _ _ _ e b).up c (YL _)).map c
   ·split
    ·exact((s0 c ht _ _ _ e b).up c (YL _)).map c
    ·exact a
  ·split
   ·exact((ya c ht e b).up c (YL _)).map c
   ·split
    ·refine dP.up c (p':=p+1) ?_ (YL _);refine(fD c [58,58] b).cs c (fun n q hx k f=>?_);dsimp only;refine dh c (fun j=>by rw[c.eq q j]) ?_;split
     ·exact dP.tok c f
     ·rename_i r;have m:=c.go f om;exact((ya c ht om m).up c (YL _)).map c
    ·exact a
end
theorem Bx{R R':Rd}{P:Nat}(c:Dh R R' P):∀(e a b:Nat),b<R'.ts.length->R.ts.length<=b+e->R'.ts.length<=b+a->dP R R' P b (de R e b) (de R' a b):=by
 have o:=c.len;have n:=c.le;intro e;induction e with
 |zero=>intro a b f k;omega
 |succ e j=>
  intro a b f k m;rcases a with _|a
  ·omega
  rw[de,de];exact QW c (lo:=b+1) (fun q m l=>j _ q l om om) (YM _) f
section
variable{R R':Rd} {P:Nat} (c:Dh R R' P)
include c
theorem vq(e:List et){p:Nat}(b:p<R'.ts.length):dP R R' P p (ef R e p) (ef R' e p):=by
 rw[ef,ef];refine dh c (fun a=>by rw[c.eq p a]) ?_;split
 ·exact dP.tok c b
 ·rename_i f;split
  ·exact dP.tok c b
  ·exact dP.ok c (YL _) (c.go b om)
theorem NK{α:Type}{step b:α->Nat->PR α}{lo:Nat}(s:∀a q,lo<=q->q<R'.ts.length->dP R R' P q (step a q) (b a q))(k:List UInt8):∀(m e:Nat) (a:α) (f:Nat),lo<=f->f<R'.ts.length->R.ts.length<=f+m->R'.ts.length<=f+e->dP R R' P f (gS step R k m a f) (gS b R' k e a f):=by
 have A:=c.len;have w:=c.le;intro m;induction m with
 |zero=>intro e D f l j p;omega
 |succ m u=>
  intro e a f l j p z;rcases e with _|e
  ·omega
  rw[gS,gS];refine(s a f l j).cs c (fun B q hx x n=>?_);dsimp only;refine dh c (fun j=>by rw[c.eq q j]) ?_;split
  ·rename_i r;exact dP.ok c (YL _) (c.step n r)
  ·refine(fD c [44] n).cs c (fun C y hx v o=>?_);dsimp only;have t:=cH _ _ _ hx;simp only[YO,YN]at t;exact u _ _ _ om o om om
theorem tQ{α:Type}{step a:α->Nat->PR α}{lo:Nat}(l:∀e q,lo<=q->q<R'.ts.length->dP R R' P q (step e q) (a e q))(b:List UInt8)(e:α){p:Nat}(k:lo<=p)(n:p<R'.ts.length):dP R R' P p (fA step R b e p) (fA a R' b e p):=by
 have o:=c.len;have m:=c.le;rw[fA,fA];refine dh c (fun j=>by rw[c.eq p j]) ?_;split
 ·rename_i f;exact dP.ok c (YL _) (c.step n f)
 ·exact NK c l b _ _ _ _ k n om om
theorem HN(a:Nat){p:Nat}(b:p<R'.ts.length):dP R R' P p (mF a R p) (mF a R' p):=by
 rw[mF,mF];refine dh c (fun e=>by rw[c.eq p e]) ?_;split
 ·exact dP.tok c b
 ·rename_i f;split
  ·split
   ·exact dP.tok c b
   ·exact dP.ok c (YL _) (c.go b om)
  ·exact dP.tok c b
end
section
variable{R R':Rd} {P:Nat} (c:Dh R R' P) {lo:Nat} {ex pF:Nat->PR Ex} (he:∀q,lo<=q->q<R'.ts.length->dP R R' P q (ex q) (pF q))
include c he
theorem jG(a:List UInt8){p:Nat}(j:lo<=p)(f:p<R'.ts.length):dP R R' P p (eJ ex R a p) (eJ pF R' a p):=by
 rw[eJ,eJ];refine(fD c a f).cs c (fun k q hx e b=>?_);exact he _ om b
theorem NL(a:List et)(p:Nat)(j:lo<=p)(f:p<R'.ts.length):dP R R' P p (ja ex R a p) (ja pF R' a p):=by
 rw[ja,ja];refine(vq c a f).cs c (fun k q hx e b=>?_);exact(jG c he _ om b).map c
theorem NM(a:List et)(p:Nat)(k:lo<=p)(j:p<R'.ts.length):dP R R' P p (ic ex R a p) (ic pF R' a p):=by
 rw[ic,ic];refine(vq c a j).cs c (fun f q hx e b=>?_);dsimp only;refine(hG c b).cs c (fun f q hx e b=>?_);exact(jG c he _ om b).map c
theorem By(b:List UInt8)(f:Nat)(a:List Ex){p:Nat}(e:lo<=p)(j:p<R'.ts.length):dP R R' P p (gV ex R b f a p) (gV pF R' b f a p):=by
 rw[gV,gV];exact(tQ c (NL c he) b [] e j).map c
theorem NN(b:List Ex)(p:Nat)(a:lo<=p)(e:p<R'.ts.length):dP R R' P p (kc ex b p) (kc pF b p):=by
 rw[kc,kc];exact(he _ a e).map c
theorem NO{ty lC:Nat->PR Ty}(ht:∀q,lo<=q->q<R'.ts.length->dP R R' P q (ty q) (lC q))(a:List et)(p:Nat)(m:lo<=p)(l:p<R'.ts.length):dP R R' P p (hR ty ex R a p) (hR lC pF R' a p):=by
 rw[hR,hR];refine(vq c a l).cs c (fun k q hx e b=>?_);dsimp only;refine(fD c [58] b).cs c (fun k q hx e b=>?_);dsimp only;refine(ht _ om b).cs c (fun k q hx e b=>?_);dsimp only;refine dh c (fun j=>by rw[c.eq q j]) ?_;split
 ·rename_i f;exact((he _ om (c.step b f)).up c (YL _)).map c
 ·exact dP.ok c (YM _) b
end
theorem HO{t:Tok}{a:List (List UInt8)}(b:tS t a=some d):c0 t d=true:=List.find?_some b
section
variable{R R':Rd} {P:Nat} (c:Dh R R' P) {lo:Nat}
include c
theorem QX{next a:Nat->PR Ex}(t:∀q,lo<=q->q<R'.ts.length->dP R R' P q (next q) (a q))(j:List (List UInt8)):∀(k b:Nat) (l:Ex) (f:Nat),lo<=f->f<R'.ts.length->R.ts.length<=f+k->R'.ts.length<=f+b->dP R R' P f (rK next j R k l f) (rK a j R' b l f):=by
 have y:=c.len;have v:=c.le;intro k;induction k with
 |zero=>intro b l f n e m;omega
 |succ k u=>
  intro b l f n e m x;rcases b with _|b
  ·omega
  rw[rK,rK];refine dh c (fun e=>by rw[c.eq f e]) ?_;split
  ·exact dP.ok c (YM _) e
  ·rename_i o r;have p:=c.step e (HO r);refine dP.up c (p':=f+1) ?_ (YL _);refine(t _ om p).cs c (fun z q hx w s=>?_);exact u _ _ _ om s om om
theorem xg{next a:Nat->PR Ex}(e:∀q,lo<=q->q<R'.ts.length->dP R R' P q (next q) (a q))(b:List (List UInt8)){p:Nat}(j:lo<=p)(n:p<R'.ts.length):dP R R' P p (la next b R p) (la a b R' p):=by
 have l:=c.len;have k:=c.le;rw[la,la];refine(e _ j n).cs c (fun o q hx m f=>?_);exact QX c e b _ _ _ _ om f om om
theorem Kh{ty lC:Nat->PR Ty}(ht:∀q,lo<=q->q<R'.ts.length->dP R R' P q (ty q) (lC q))(b:List UInt8){p:Nat}(n:lo<=p)(k:p<R'.ts.length):dP R R' P p (gm ty R b p) (gm lC R' b p):=by
 rw[gm,gm];have a:dP R R' P p (if c0 (R.tok p) [58,58]then(c9 R (p+1)).map fun j=>(4,b,j)else .ok (3,[],b) p:PR (Nat×List UInt8×List UInt8)) (if c0 (R'.tok p) [58,58]then(c9 R' (p+1)).map fun j=>(4,b,j)else .ok (3,[],b) p:PR (Nat×List UInt8×List UInt8)):=by
  refine dh c (fun a=>by rw[c.eq p a]) ?_;split
  ·rename_i f;exact((hG c (c.step k f)).up c (YL _)).map c
  ·exact dP.ok c (YM _) k
 refine a.cs c (fun l q hx m e=>?_);dsimp only;obtain⟨r,s,o⟩:=l;dsimp only;refine dh c (fun a=>by rw[c.eq q a]) ?_;split
 ·exact(ya c ht om e).map c
 ·exact dP.ok c (YM _) e
end
section
variable{R R':Rd} {P:Nat} (c:Dh R R' P) {lo:Nat} {ex pF:Nat->PR Ex} (he:∀q,lo<=q->q<R'.ts.length->dP R R' P q (ex q) (pF q))
include c he
theorem NP:∀(k b:Nat) (l:Ex) (e:Nat),lo<=e+1->e<R'.ts.length->R.ts.length<=e+k->R'.ts.length<=e+b->dP R R' P e (lc ex R k l e) (lc pF R' b l e):=by
 have s:=c.len;have r:=c.le;intro k;induction k with
 |zero=>intro b l e n a p;omega
 |succ k m=>
  intro b l e n a p u;rcases b with _|b
  ·omega
  rw[lc,lc];refine dh c (fun a=>by rw[c.eq e a]) ?_;split
  ·rename_i j;refine dP.up c (p':=e+1) ?_ (YL _);refine(hG c (c.step a j)).cs c (fun t q hx o f=>?_);exact m _ _ _ om f om om
  ·split
   ·rename_i j;refine dP.up c (p':=e+1) ?_ (YL _);refine(By c he [41] 9 [l] n (c.step a j)).cs c (fun t q hx o f=>?_);exact m _ _ _ om f om om
   ·exact dP.ok c (YM _) a
theorem QY{p:Nat}(j:lo<=p)(f:p<R'.ts.length):dP R R' P p (qX ex R p) (qX pF R' p):=by
 rw[qX,qX];refine(hG c f).cs c (fun e q hx b a=>?_);dsimp only;refine(jG c he [61] (p:=q) om a).cs c (fun e q hx b a=>?_);exact(jG c he _ om a).map c
variable{ty lC:Nat->PR Ty} (ht:∀q,lo<=q->q<R'.ts.length->dP R R' P q (ty q) (lC q))
include ht
theorem NQ{p:Nat}(l:lo<=p+1)(k:p<R'.ts.length):dP R R' P p (e7 ty ex R p) (e7 lC pF R' p):=by
 have e:=HN c 9223372036854775807 k;rw[e7,e7];generalize mF 9223372036854775807 R p=s at e⊢;generalize mF 9223372036854775807 R' p=t at e⊢;refine dh c (fun j=>by rw[c.eq p j]) ?_;refine nq (fun a=>?_) (fun a=>?_)
 ·exact e
 refine nq (fun a=>?_) (fun a=>?_)
 ·exact dP.ok c (YL _) (c.go k (by rw[a];decide))
 refine nq (fun a=>?_) (fun a=>?_)
 ·exact(Kh c ht _ l (c.go k (by rw[a];decide))).up c (YL _)
 refine nq (fun a=>?_) (fun a=>?_)
 ·exact dP.ok c (YL _) (c.step k a)
 refine nq (fun a=>?_) (fun a=>?_)
 ·exact dP.ok c (YL _) (c.step k a)
 refine nq (fun a=>?_) (fun a=>?_)
 ·exact(By c he _ _ _ l (c.step k a)).up c (YL _)
 refine nq (fun a=>?_) (fun a=>?_)
 ·skip
  refine dP.up c (p':=p+1) ?_ (YL _);refine(hG c (c.step k a)).cs c (fun m q hx f b=>?_);dsimp only;refine(jG c he [58] (p:=q) om b).cs c (fun m q hx f b=>?_);exact(fD c _ b).map c
 refine nq (fun a=>?_) (fun a=>?_)
 ·skip
  refine dP.up c (p':=p+1) ?_ (YL _);refine(ht _ l (c.step k a)).cs c (fun m q hx f b=>?_);dsimp only;refine(fD c [124] b).cs c (fun m q hx f b=>?_);exact(tQ c (NN c he) _ _ om b).map c
 refine nq (fun a=>?_) (fun a=>?_)
 ·skip
  refine dP.up c (p':=p+1) ?_ (YL _);refine(he _ l (c.step k a)).cs c (fun n q hx f b=>?_);dsimp only;have j:dP R R' P q (if c0 (R.tok q) [58]then(ty (q+1)).map fun r=>.mk 11 [] [] [] 0 [r] [] [n]else .ok n q:PR Ex) (if c0 (R'.tok q) [58]then(lC (q+1)).map fun r=>.mk 11 [] [] [] 0 [r] [] [n]else .ok n q:PR Ex):=by
   refine dh c (fun j=>by rw[c.eq q j]) ?_;split
   ·rename_i o;exact((ht _ om (c.step b o)).up c (YL _)).map c
   ·exact dP.ok c (YM _) b
  refine j.cs c (fun m q hx f b=>?_);exact(fD c _ b).map c
 ·exact dP.tok c k
theorem NR{p:Nat}(b:lo<=p+1)(k:p<R'.ts.length):dP R R' P p (jB ty ex R p) (jB lC pF R' p):=by
 have f:=c.len;have e:=c.le;rw[jB,jB];refine(NQ c he ht b k).cs c (fun l q hx j a=>?_);exact NP c he _ _ _ _ om a om om
theorem QZ:∀(k b e:Nat),lo<=e+1->e<R'.ts.length->R.ts.length<=e+k->R'.ts.length<=e+b->dP R R' P e (ov ty ex R k e) (ov lC pF R' b e):=by
 have p:=c.len;have o:=c.le;intro k;induction k with
 |zero=>intro b e l a n;omega
 |succ k m=>
  intro b e l a n r;rcases b with _|b
  ·omega
  have f:=NR c he ht l a;rw[ov,ov];generalize jB ty ex R e=q at f⊢;generalize jB lC pF R' e=s at f⊢;refine dh c (fun a=>by rw[c.eq e a]) ?_;split
  ·rename_i j;exact((m _ _ om (c.step a j) om om).up c (YL _)).map c
  split
  ·rename_i j;exact(HN c _ (c.step a j)).up c (YL _)
  ·exact f
theorem Q0{p:Nat}(e:lo<=p+1)(f:p<R'.ts.length):dP R R' P p (R2 ty ex R p) (R2 lC pF R' p):=xg c (lo:=p) (fun q b a=>QZ c he ht _ _ q om a om om) _ (YM _) f
theorem HP{p:Nat}(e:lo<=p+1)(f:p<R'.ts.length):dP R R' P p (pd ty ex R p) (pd lC pF R' p):=xg c (lo:=p) (fun q b a=>Q0 c he ht om a) _ (YM _) f
theorem Q1:∀(k b e:Nat),lo<=e+1->e<R'.ts.length->R.ts.length<=e+k->R'.ts.length<=e+b->dP R R' P e (mm ty ex R k e) (mm lC pF R' b e):=by
 have u:=c.len;have r:=c.le;intro k;induction k with
 |zero=>intro b e j a m;omega
 |succ k p=>
  intro b e j a m t;rcases b with _|b
  ·omega
  have f:=HP c he ht j a;rw[mm,mm];generalize pd ty ex R e=v at f⊢;generalize pd lC pF R' e=w at f⊢;refine dh c (fun a=>by rw[c.eq e a]) ?_;split
  ·rename_i n;exact((p _ _ om (c.step a n) om om).up c (YL _)).map c
  ·refine f.cs c (fun x q hx s l=>?_);dsimp only;refine dh c (fun a=>by rw[c.eq q a]) ?_;split
   ·exact dP.ok c (YM _) l
   ·rename_i y o;exact((HP c he ht om (c.step l (HO o))).up c (YL _)).map c
theorem Q2{p:Nat}(e:lo<=p+1)(f:p<R'.ts.length):dP R R' P p (R3 ty ex R p) (R3 lC pF R' p):=xg c (lo:=p) (fun q b a=>Q1 c he ht _ _ q om a om om) _ (YM _) f
theorem Te{p:Nat}(e:lo<=p+1)(f:p<R'.ts.length):dP R R' P p (MB ty ex R p) (MB lC pF R' p):=xg c (lo:=p) (fun q b a=>Q2 c he ht om a) _ (YM _) f
theorem NS{p:Nat}(e:lo<=p)(j:p<R'.ts.length):dP R R' P p (kH ty ex R p) (kH lC pF R' p):=by
 rw[kH,kH];refine(nr c ht e j).cs c (fun f q hx b a=>?_);dsimp only;refine(he q om a).cs c (fun f q hx b a=>?_);dsimp only;refine(jG c he [116,104,101,110] (p:=q) om a).cs c (fun f q hx b a=>?_);dsimp only;exact(jG c he _ om a).map c
theorem Ki{p:Nat}(e:lo<=p)(j:p<R'.ts.length):dP R R' P p (iW ty ex R p) (iW lC pF R' p):=by
 rw[iW,iW];refine(nr c ht e j).cs c (fun f q hx b a=>?_);dsimp only;refine(he q om a).cs c (fun f q hx b a=>?_);dsimp only;refine(fD c [123] a).cs c (fun f q hx b a=>?_);dsimp only;exact(tQ c (NM c he) _ _ om a).map c
theorem NT{p:Nat}(f:lo<=p)(j:p<R'.ts.length):dP R R' P p (jb ty ex R p) (jb lC pF R' p):=by
 rw[jb,jb];refine(nr c ht f j).cs c (fun e q hx b a=>?_);dsimp only;refine(hG c a).cs c (fun e q hx b a=>?_);dsimp only;refine(fD c [44] a).cs c (fun e q hx b a=>?_);dsimp only;refine(hG c a).cs c (fun e q hx b a=>?_);dsimp only;refine(jG c he [105,110] (p:=q) om a).cs c (fun e q hx b a=>?_);dsimp only;refine(jG c he [102,114,111,109] (p:=q) om a).cs c (fun e q hx b a=>?_);dsimp only;exact(jG c he _ om a).map c
theorem NU{p:Nat}(m:lo<=p)(l:p<R'.ts.length):dP R R' P p (funcF ty ex R p) (funcF lC pF R' p):=by
 rw[funcF,funcF];refine(fD c [40] l).cs c (fun k q hx e b=>?_);dsimp only;refine(tQ c (fun a q j f=>NO c he ht a q j f) [41] [] (p:=q) om b).cs c (fun k q hx e b=>?_);dsimp only;exact(jG c he _ om b).map c
theorem Tf{p:Nat}(b:lo<=p+1)(k:p<R'.ts.length):dP R R' P p (y5 ty ex R p) (y5 lC pF R' p):=by
 have f:=Te c he ht b k;rw[y5,y5];generalize MB ty ex R p=m at f⊢;generalize MB lC pF R' p=n at f⊢;refine dh c (fun j=>by rw[c.eq p j]) ?_;have e:∀{l:List UInt8},(R'.tok p).kind=5/\(R'.tok p).text=l->p+1<R'.ts.length:=fun a=>c.go k om;split
 ·rename_i a;exact(QY c he b (e a)).up c (YL _)
 split
 ·rename_i a;exact(NS c he ht b (e a)).up c (YL _)
 split
 ·rename_i a;exact(Ki c he ht b (e a)).up c (YL _)
 split
 ·rename_i a;exact(NT c he ht b (e a)).up c (YL _)
 split
 ·rename_i a;exact(NU c he ht b (e a)).up c (YL _)
 ·exact f
end
theorem Lv{R R':Rd}{P:Nat}(c:Dh R R' P):∀(f a b:Nat),b<R'.ts.length->R.ts.length<=b+f->R'.ts.length<=b+a->dP R R' P b (AW R f b) (AW R' a b):=by
 have o:=c.len;have n:=c.le;intro f;induction f with
 |zero=>intro a b j m;omega
 |succ f l=>
  intro a b j m k;rcases a with _|a
  ·omega
  rw[AW,AW];exact Tf c (lo:=b+1) (fun q k e=>l _ q e om om) (fun q k e=>Bx c _ _ q e om om) (YM _) j
section
variable{R R':Rd} {P:Nat} (c:Dh R R' P)
include c
theorem Lw{ty lC:Nat->PR Ty}(ht:∀q,q<R'.ts.length->dP R R' P q (ty q) (lC q))(e:List UInt8)(t0:Ty){p:Nat}(f:p<R'.ts.length):dP R R' P p (lf ty R e t0 p) (lf lC R' e t0 p):=by
 rw[lf,lf];refine dh c (fun a=>by rw[c.eq p a]) ?_;split
 ·rename_i b;exact((ht _ (c.step f b)).up c (YL _)).map c
 ·exact dP.ok c (YM _) f
theorem NV:∀(j b:Nat) (k:List UInt8) (f:Nat),f<R'.ts.length->R.ts.length<=f+j->R'.ts.length<=f+b->dP R R' P f (kI R j k f) (kI R' b k f):=by
 have r:=c.len;have p:=c.le;intro j;induction j with
 |zero=>intro b k f e n;omega
 |succ j l=>
  intro b k f e n t;rcases b with _|b
  ·omega
  rw[kI,kI];refine dh c (fun e=>by rw[c.eq f e]) ?_;split
  ·rename_i o;refine dP.up c (p':=f+1) ?_ (YL _);refine(hG c (c.step e o)).cs c (fun a q hx s m=>?_);exact l _ _ _ m om om
  ·exact dP.ok c (YM _) e
theorem HQ{p:Nat}(m:p<R'.ts.length):dP R R' P p (fT R p) (fT R' p):=by
 have k:=c.len;have j:=c.le;rw[fT,fT];refine(hG c m).cs c (fun a q hx l e=>?_);dsimp only;refine(NV c R.ts.length R'.ts.length a q e om om).cs c (fun o n hx f b=>?_);dsimp only;split
 ·exact dP.ok c (YM _) b
 ·exact Vk c dc dc
theorem NW{α:Type}{step b:α->Nat->PR α}(p:∀a q,q<R'.ts.length->dP R R' P q (step a q) (b a q)):∀(k e:Nat) (a:α) (f:Nat),f<R'.ts.length->R.ts.length<=f+k->R'.ts.length<=f+e->dP R R' P f (lA step R k a f) (lA b R' e a f):=by
 have s:=c.len;have r:=c.le;intro k;induction k with
 |zero=>intro e w f j n;omega
 |succ k m=>
  intro e a f j n v;rcases e with _|e
  ·omega
  rw[lA,lA];refine(p a f j).cs c (fun u q hx t l=>?_);dsimp only;refine dh c (fun j=>by rw[c.eq q j]) ?_;split
  ·rename_i o;exact(m _ _ _ (c.step l o) om om).up c (YL _)
  ·exact(fD c _ l).map c
theorem Di{α:Type}{step a:α->Nat->PR α}(j:∀b q,q<R'.ts.length->dP R R' P q (step b q) (a b q))(b:α){p:Nat}(l:p<R'.ts.length):dP R R' P p (hT step R b p) (hT a R' b p):=by
 have m:=c.len;have k:=c.le;rw[hT,hT];refine dh c (fun f=>by rw[c.eq p f]) ?_;split
 ·rename_i e;exact(NW c j _ _ _ _ (c.step l e) om om).up c (YL _)
 ·exact dP.ok c (YM _) l
theorem Kj{ty lC:Nat->PR Ty}(ht:∀q,q<R'.ts.length->dP R R' P q (ty q) (lC q))(a:List mv){p:Nat}(k:p<R'.ts.length):dP R R' P p (fW ty R a p) (fW lC R' a p):=by
 rw[fW,fW];refine(ot c (k:=2) dc k).cs c (fun l q hx j b=>?_);dsimp only;refine dh c (fun f=>by rw[c.eq q f]) ?_;split
 ·rename_i e;exact((ht _ (c.step b e)).up c (YL _)).map c
 ·exact dP.ok c (YM _) b
theorem Q3{p:Nat}(f:p<R'.ts.length):dP R R' P p (kf R p) (kf R' p):=by
 rw[kf,kf];refine dh c (fun a=>by rw[c.eq p a]) ?_;split
 ·rename_i a;have b:=c.step f a;refine dP.up c (p':=p+1) ?_ (YL _);refine dh c (fun a=>by rw[c.eq (p+1) a]) ?_;split
  ·rename_i e;exact((ot c (k:=4) dc (c.step b e)).up c (YL _)).map c
  ·exact dP.ok c (YM _) b
 ·exact dP.ok c (YM _) f
theorem Kk(k:List mv){p:Nat}(e:p<R'.ts.length):dP R R' P p (fq R k p) (fq R' k p):=by
 rw[fq,fq];refine dh c (fun j=>by rw[c.eq p j]) ?_;split
 ·exact dP.tok c e
 ·rename_i m a;have f:p+1<R'.ts.length:=by
   rw[sM]at a;split at a
   ·rename_i b;exact c.step e b
   ·split at a
    ·rename_i b;exact c.step e b
    ·split at a
     ·rename_i b;exact c.step e b
     ·cases a
  exact((ot c (k:=2) dc f).up c (YL _)).map c
theorem NX{ty lC:Nat->PR Ty}(ht:∀q,q<R'.ts.length->dP R R' P q (ty q) (lC q))(a b:Bool)(n:List UInt8){p:Nat}(k:p<R'.ts.length):dP R R' P p (hM ty R a b n p) (hM lC R' a b n p):=by
 rw[hM,hM];refine(ot c (k:=2) dc k).cs c (fun j q hx e f=>?_);dsimp only;refine(Di c (fun a q e=>Kk c a e) [] f).cs c (fun j q hx e f=>?_);dsimp only;refine(Lw c ht [62,58] uz f).cs c (fun j q hx e f=>?_);dsimp only;refine(Lw c ht [60,58] c1 f).cs c (fun j q hx e f=>?_);dsimp only;exact(l5 c _ f fun q _ e=>ht q e).map c
theorem NY{ty lC:Nat->PR Ty}(ht:∀q,q<R'.ts.length->dP R R' P q (ty q) (lC q)){ex pF:Nat->PR Ex}(j:∀q,q<R'.ts.length->dP R R' P q (ex q) (pF q))(a b:Bool)(n:List UInt8){p:Nat}(l:p<R'.ts.length):dP R R' P p (iX ty ex R a b n p) (iX lC pF R' a b n p):=by
 rw[iX,iX];refine(hG c l).cs c (fun k q hx e f=>?_);dsimp only;refine(Di c (fun a q e=>Kj c ht a e) [] f).cs c (fun k q hx e f=>?_);dsimp only;refine(l5 c [58] f fun q _ e=>ht q e).cs c (fun k q hx e f=>?_);dsimp only;exact(l5 c _ f fun q _ e=>j q e).map c
theorem NZ(a b:Bool)(n:List UInt8){p:Nat}(k:p<R'.ts.length):dP R R' P p (ie R a b n p) (ie R' a b n p):=by
 rw[ie,ie];refine(hG c k).cs c (fun j q hx e f=>?_);dsimp only;refine(l5 c [58,58] f fun q _ e=>Bv c e).cs c (fun j q hx e f=>?_);dsimp only;exact(l5 c _ f fun q _ e=>Bv c e).map c
theorem Q4{ty lC:Nat->PR Ty}(ht:∀q,q<R'.ts.length->dP R R' P q (ty q) (lC q)){ex pF:Nat->PR Ex}(e:∀q,q<R'.ts.length->dP R R' P q (ex q) (pF q)){p:Nat}(k:p<R'.ts.length):dP R R' P p (eS ty ex R p) (eS lC pF R' p):=by
 rw[eS,eS];refine(Q3 c k).cs c (fun l q hx j b=>?_);dsimp only;refine dh c (fun f=>by rw[c.eq q f]) ?_;split
 ·rename_i a;exact(NX c ht _ _ _ (c.step b a)).up c (YL _)
 ·split
  ·rename_i a;exact(NY c ht e _ _ _ (c.step b a)).up c (YL _)
  ·split
   ·rename_i a;exact(NZ c _ _ _ (c.step b a)).up c (YL _)
   ·exact dP.tok c b
theorem Kl{p:Nat}(e:p<R'.ts.length):dP R R' P p (fR R p) (fR R' p):=by
 rw[fR,fR];refine(HQ c e).cs c (fun f q hx a b=>?_);dsimp only;exact(l5 c _ b fun q _ a=>hG c a).map c
theorem HR:∀(f a:Nat) (j:List sL) (e:Nat),e<R'.ts.length->R.ts.length<=e+f->R'.ts.length<=e+a->dP R R' P e (eK R f j e) (eK R' a j e):=by
 have p:=c.len;have o:=c.le;intro f;induction f with
 |zero=>intro a j e b m;omega
 |succ f k=>
  intro a j e b m s;rcases a with _|a
  ·omega
  rw[eK,eK];refine dh c (fun b=>by rw[c.eq e b]) ?_;split
  ·rename_i n;refine dP.up c (p':=e+1) ?_ (YL _);refine(Kl c (c.step b n)).cs c (fun t q hx r l=>?_);exact k _ _ _ l om om
  ·exact dP.ok c (YM _) b
theorem N1{ty lC:Nat->PR Ty}(ht:∀q,q<R'.ts.length->dP R R' P q (ty q) (lC q)){ex pF:Nat->PR Ex}(n:∀q,q<R'.ts.length->dP R R' P q (ex q) (pF q))(p:∀b s q,0<=b->b<R'.ts.length->lC b=.ok s q->b<q/\q<R'.ts.length)(u:∀b s q,0<=b->b<R'.ts.length->pF b=.ok s q->b<q/\q<R'.ts.length):∀(l f:Nat) (o:List kA) (j:List Nat) (b:Nat),b<R'.ts.length->R.ts.length<=b+l->R'.ts.length<=b+f->dP R R' P b (fX ty ex R l o j b) (fX lC pF R' f o j b):=by
 have A:=c.len;have w:=c.le;intro l;induction l with
 |zero=>intro f o j b e r;omega
 |succ l v=>
  intro f o j b e r z;rcases f with _|f
  ·omega
  have k:=Q4 c ht n e;rw[fX,fX];generalize x:eS ty ex R b=B at k⊢;generalize m:eS lC pF R' b=C at k⊢;refine dh c (fun e=>by rw[c.eq b e]) ?_;split
  ·refine k.cs c (fun D q hx y t=>?_);dsimp only;obtain⟨a,_⟩:=qe c.w p u (YP _) e (m.trans hx);exact v _ _ _ _ t om om
  ·exact dP.ok c (YM _) e
theorem Tg{ty lC:Nat->PR Ty}(ht:∀q,q<R'.ts.length->dP R R' P q (ty q) (lC q)){ex pF:Nat->PR Ex}(e:∀q,q<R'.ts.length->dP R R' P q (ex q) (pF q))(j:∀p f q,0<=p->p<R'.ts.length->lC p=.ok f q->p<q/\q<R'.ts.length)(k:∀p f q,0<=p->p<R'.ts.length->pF p=.ok f q->p<q/\q<R'.ts.length){p:Nat}(o:p<R'.ts.length):dP R R' P p (ow ty ex R p) (ow lC pF R' p):=by
 have m:=c.len;have l:=c.le;rw[ow,ow];refine(l5 c _ o fun q _ a=>HQ c a).cs c (fun n q hx a b=>?_);dsimp only;refine(HR c R.ts.length R'.ts.length [] q b om om).cs c (fun n q hx a b=>?_);dsimp only;exact(N1 c ht e j k R.ts.length R'.ts.length [] [] q b om om).map c
end
theorem Q5{R R':Rd}{P:Nat}(c:Dh R R' P)(mI:R'.Nm){p:Nat}(f:p<R'.ts.length):dP R R' P p (vo R p) (vo R' p):=by
 have l:=c.len;have k:=c.le;exact Tg c (fun q f=>Bx c _ _ q f om om) (fun q f=>Lv c _ _ q f om om) (fun p j q e b a=>(qd c.w mI _ p j q e b a).2.2) (fun p j q e b a=>(Bg c.w mI _ 0 p j q e b a).2.2) f
end Go.Proofs.YtpejealjkmhkgaaGreatDoor
