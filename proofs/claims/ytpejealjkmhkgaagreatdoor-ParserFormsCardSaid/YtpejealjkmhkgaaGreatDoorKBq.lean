/- Part of the proof. -/
import Derived.Test.YtpejealjkmhkgaaGreatDoorKBp
set_option linter.all false
set_option maxHeartbeats 16000000
set_option maxRecDepth 100000
open Int renaming ofNat->abK
open List renaming getElem_mem->abL,getElem?_eq_getElem->aev,map_append->aeM,length_singleton->aeN,mem_map_of_mem->aeO,getLastD_eq_getLast?->aeR,length_dropLast->aeS,length_pos_iff->aeU,length_append->aeV
open Nat renaming le_refl->aet,zero_le->aeu,beq->aeT
open Bool renaming not_eq_false'->aeP
open And renaming intro->aeQ
namespace Go.Proofs.YtpejealjkmhkgaaGreatDoor
open Go.AM Go.VM
variable{r:cq}
theorem Xu(c:r.all isWord=true):hQ [47] r=false:=by
 induction r with
 |nil=>rfl
 |cons a b d=>
  rw[List.all_cons,Bool.and_eq_true]at c;have f:pK [47] (a::b)=false:=by
   show(match aeT (47:UInt8).toNat a.toNat with|true=>pK [] b|false=>false)=false;cases e:aeT (47:UInt8).toNat a.toNat with
   |false=>rfl
   |true=>
    have h:=Nat.eq_of_beq_eq_true e;have:a=47:=UInt8.toNat_inj.1 h.symm;rw[this]at c;exact absurd c.1 dc
  show(match pK [47] (a::b)with|true=>true|false=>hQ [47] b)=false;rw[f];exact d c.2
theorem KR(h:r=[]∨cK r=true):hQ [47] r=false/\r.length<4294967281:=by
 rcases h with rfl|h
 ·exact⟨Z,dc⟩
 ·simp only[cK,Bool.and_eq_true,decide_eq_true_eq]at h;exact⟨Xu h.1.2,om⟩
variable{g:Nat}
theorem U4{d n:cq}{b:List Ty}{a:List oG}(e:ol (.mk g d n b a)):g≠9/\hQ [47] d=false/\d.length<4294967281:=by
 cases e with
 |base e=>exact⟨om,rfl,dc⟩
 |list=>exact⟨dc,rfl,dc⟩
 |Rz=>exact⟨dc,rfl,dc⟩
 |vrt=>exact⟨dc,rfl,dc⟩
 |func=>exact⟨dc,rfl,dc⟩
 |ref c=>exact⟨dc,KR c⟩
theorem adl(a:(!decide (abK g=9))=false):g=9:=by
 rw[aeP]at a;exact AJ (b:=9) a
theorem Z1{a b:Bool}(c:a=b):some (V.d (.bool a))=some (V.d (.bool b)):=by rw[c]
theorem Np(n:Nat)(L:∀(t:Ty) (w:cH),ct t<=n->ft t->eZ t w->∀{G:VS} {O:cO->VS->Prop},O (.ret (bX true)) G->bV C ca hV [.agg (w.map V.d)] G O) 
  (t:Ty) (w:cH) (o:ct t<=n+1) (r:n<4294967295) (I:ft t) (s:eZ t w):bV C ca hV [.agg (w.map V.d)] [] fun X F=>F=[]/\X=.ret (bX true):=by
 have S:=eO t;cases I with
 |mk B A=>
 cases s with
 |mk M J=>
  rename_i k m h d a g p;have s:=eZ.mk M J (k:=k) (m:=m) (n:=h);obtain⟨z,f,D⟩:=U4 B;have x:cy (dD (.mk k m h d a))<=n:=om;refine cm ?_;refine aZ (fun H=>?_) (fun H=>absurd (adl H) z);repeat refine de ?_
  refine rp m [47] D ?_;repeat refine de ?_
  refine ra _ _ s om (fun w E=>?_);generalize dD (.mk k m h d a)=e at E x A;have P:=dA e;cases E with
  |nil=>
   refine cd.loop ?_;exact a8 0 ⟨Z,by rw[f];rfl⟩
  |ps U=>
   rename_i T Q j c;have y:=U.len;refine cd.less (dB:=[(3,bX true),(16,.d (.ps T Q 5 j c)),(17,bW c.length),(18,bW 0)]) ⟨Z1 (by rw[f];rfl),Z,Z,Z,tv⟩ ?_;refine cd.iter (fun i:Nat=>[(3,bX true),(16,.d (.ps T Q 5 j c)),(17,bW c.length),(18,bW i)]) (fun _=>[.box (qk k m h g p)]) (fun i=>e.length-i) (fun i=>i<=e.length) ?_ 0 (aeu _);intro i q;apply aZ<;>intro N
   ·have b:i<e.length:=y▸ee N;obtain⟨w,K,l⟩:=U.get b;refine bZ Z ?_;obtain⟨u,Y,R,v,f2,rfl⟩:=l.cZ;refine cc _ (by rw[ck];exact K) ?_;have W:=dJ (abL b);refine L e[i] _ om (A _ (abL b)) l ?_;exact⟨i+1,b,iK,.eD 1,Z,Z⟩
   ·exact a8 0 ⟨Z,Z⟩
theorem sc:∀(d:Nat) (a:Ty) (c:cH),d<4294967295->ct a<=d->ft a->eZ a c->∀{b:VS} {f:cO->VS->Prop},f (.ret (bX true)) b->bV C ca hV [.agg (c.map V.d)] b f:=by
 intro d;induction d with
 |zero=>intro a c _ n;have:=gO a;omega
 |succ d m=>
  intro a c t n i e b f j;obtain⟨y,z,s,w,x,rfl⟩:=e.cZ;exact cC (Np d (fun a c k h l=>m a c om k h l) a _ n om i e) Z Z j
variable{o:List hZ} {u:Int} {p:List Ex}
theorem Rf{b n f:cq}{types:List Ty}(a:fB (.mk g b n f u types o p)):(hQ [47] b=false/\b.length<4294967281)/\(g=4->b≠[]∨types≠[]):=by
 cases a with
 |loc e=>exact⟨⟨rfl,dc⟩,fun a=>by cases a⟩
 |val c e h d=>exact⟨KR c,fun _=>d⟩
 |_=>exact⟨⟨rfl,dc⟩,fun a=>by cases a⟩
def ael:Nat->Bool:=fun a=>aeT a 1000002||aeT a 1000007
theorem Nq(q:Nat)(ae:∀(y:Ex) (G:cH),cP y<=q->ej y->je y G->∀{Y:VS} {af:cO->VS->Prop},af (.ret (bX true)) Y->bV C ca hW [.agg (G.map V.d)] Y af) 
  (y:Ex) (G:cH) (O:cP y<=q+1) (ar:q<4294967294) (l:ej y) (z:je y G):bV C ca hW [.agg (G.map V.d)] [] fun ao X=>X=[]/\ao=.ret (bX true):=by
 have D:=fJ y;have w:=fun k m n x num types c a (O:y=.mk k m n x num types c a)=>wb l O om;have i:∀av∈k7 y,ft av:=l.node.all;have s:=l.kids;have H:=l.node;clear l;cases z with
 |mk I p F=>
 rename_i k m nn x num types c a ty lb kd;have z:=je.mk (k:=k) (m:=m) (n:=nn) (x:=x) (num:=num) I p F;obtain⟨⟨P,W⟩,g⟩:=Rf H;have ak:(!hQ [47] m)=true:=by rw[P];rfl
 refine cv ael (fun _=>Z) ?_;apply dH (ι:=Unit) (T:=fun _=>[(1,.bp 0 0),(3,bX true)]) (S:=fun _=>[.box (ky k m nn x num ty lb kd)]) (I:=fun _=>True)
 ·intro hC;refine rp m [47] W ?_;repeat refine de ?_
  apply aZ<;>intro S
  ·repeat refine de ?_
   exact RY
  ·have U:k=4:=by
    rw[aeP]at S;exact AJ (b:=4) S
   repeat refine de ?_
   apply aZ<;>intro T
   ·repeat refine de ?_
    exact RY
   ·have ac:m=[]:=of_decide_eq_true (by rw[aeP]at T;exact T);have u:types≠[]:=(g U).resolve_left fun J=>J ac;cases I with
    |nil=>exact absurd rfl u
    |ps J R=>
     rename_i A B e b;have L:decide (0<abK b.length)=true:=decide_eq_true (by have:=aeU.2 R;simp only[Int.ofNat_eq_natCast];omega);repeat refine de ?_
     exact cw (dB:=[(1,.bp 0 0),(3,bX true)]) (fU:=[.box (ky k m nn x num (.ps A B 5 e b) lb kd)]) (.same ⟨Z,Z1 L,tv⟩ Z) (hC () trivial)
 ·rintro⟨⟩-;refine vv z w (fun G E=>?_);have K:fR a kd:=F;have s:∀x∈a,ej x:=s;have N:cy (k7 (.mk k m nn x num types c a))+cQ a<=q:=by have:(Ex.mk k m nn x num types c a).kids=a:=rfl;rw[this]at D;omega
  generalize k7 (.mk k m nn x num types c a)=own at E N i;clear z D O w g H;have ah:=ju a;have ai:=dA own;apply dH (ι:=Unit) (T:=fun _=>[(1,.bp 0 0),(3,bX true)]) (S:=fun _=>[.box (ky k m nn x num ty lb kd)]) (I:=fun _=>True)
  ·intro hC;cases E with
   |nil=>
    refine cd.loop ?_;exact RY
   |ps J=>
    rename_i A B e b;have t:=J.len;refine cD (dB:=[(1,.bp 0 0),(3,bX true),(29,.d (.ps A B 5 e b)),(30,bW b.length),(31,bW 0)]) ?_;refine cd.iter (fun f:Nat=>[(1,.bp 0 0),(3,bX true),(29,.d (.ps A B 5 e b)),(30,bW b.length),(31,bW f)]) (fun _=>[.box (ky k m nn x num ty lb kd)]) (fun f=>own.length-f) (fun f=>f<=own.length) ?_ 0 (aeu _);intro f ab;apply aZ<;>intro Q
    ·have d:f<own.length:=t▸ee Q;obtain⟨G,M,h⟩:=J.get d;refine bZ Z ?_;obtain⟨ad,r,aj,aw,f2,rfl⟩:=h.cZ;refine cc _ (by rw[ck];exact M) ?_;have o:=dJ (abL d);refine sc _ own[f] _ om (aet _) (i _ (abL d)) h ?_;exact⟨f+1,d,iK,.eD 1,Z,Z⟩
    ·exact RY
  ·rintro⟨⟩-;cases K with
   |nil=>
    exact oy
   |ps J=>
    rename_i A B e b;have t:=J.len;refine cD (dB:=[(3,bX true),(42,.d (.ps A B 8 e b)),(43,bW b.length),(44,bW 0)]) ?_;refine cd.iter (fun f:Nat=>[(3,bX true),(42,.d (.ps A B 8 e b)),(43,bW b.length),(44,bW f)]) (fun _=>[.box (ky k m nn x num ty lb (.ps A B 8 e b))]) (fun f=>a.length-f) (fun f=>f<=a.length) ?_ 0 (aeu _);intro f ab;apply aZ<;>intro Q
    ·have d:f<a.length:=t▸ee Q;obtain⟨G,M,h⟩:=J.get d;refine bZ Z ?_;obtain⟨ad,r,ax,au,v,al,am,ag,rfl⟩:=h.eight;refine cc _ (by rw[ck];exact M) ?_;have j:a[f]∈a:=abL d;have o:=j7 j;refine ae a[f] _ om (s _ j) h ?_;exact⟨f+1,d,iK,.eD 1,Z,Z⟩
    ·exact a8 0 ⟨Z,Z⟩
theorem E7:∀(c:Nat) (n:Ex) (b:cH),c<4294967294->cP n<=c->ej n->je n b->∀{a:VS} {f:cO->VS->Prop},f (.ret (bX true)) a->bV C ca hW [.agg (b.map V.d)] a f:=by
 intro c;induction c with
 |zero=>intro e b _ t;have:=gP e;omega
 |succ c m=>
  intro e b A t i d a f j;obtain⟨D,E,w,B,s,y,z,x,rfl⟩:=d.eight;exact cC (Nq c (fun e b k h l=>m e b om k h l) e _ t om i d) Z Z j
theorem oJ(a:Nat):(!decide (abK a=abK a))=false:=by simp
theorem mV(a:Bool):(!decide (a=a))=false:=by simp
theorem l0(a:cq):(!decide (a=a))=false:=by simp
theorem zM(n:Nat)(R:∀(T:Ty) (O m:cH),ct T<=n->eZ T O->eZ T m->∀{σ:VS} {K:cO->VS->Prop},K (.ret (bX true)) σ->bV C ca dT [.agg (O.map V.d),.agg (m.map V.d)] σ K) 
  (l:List Ty) (g B:D) (u:cy l<=n) (aa:n<4294967295) (S:fA l g) (j:fA l B) {σ:VS} {K:cO->VS->Prop} (y:K (.ret (bX true)) σ):bV C ca gn [.d g,.d B] σ K:=by
 refine cj ?_;have Y:=dA l;cases S with
 |nil=>
  cases j with
  |ps H c=>cases H;exact absurd rfl c
  |nil=>
   refine cd.loop ?_;exact y
 |ps H c=>
  cases j with
  |nil=>cases H;exact absurd rfl c
  |ps z X=>
   rename_i q o f b w G d a;have s:=H.len;have N:=z.len;have U:(!decide (abK b.length=abK a.length))=false:=by rw[s,N];exact oJ _
   refine a7 U ?_;refine cD (dB:=[(0,.d (.ps q o 5 f b)),(1,.d (.ps w G 5 d a)),(5,bW 0)]) ?_;refine cd.iter (fun i:Nat=>[(0,.d (.ps q o 5 f b)),(1,.d (.ps w G 5 d a)),(5,bW i)]) (fun _=>σ) (fun i=>l.length-i) (fun i=>i<=l.length) ?_ 0 (aeu _);intro i v;apply aZ<;>intro E
   ·have hi':i<l.length:=s▸ee E;obtain⟨O,P,h⟩:=H.get hi';obtain⟨m,t,e⟩:=z.get hi';have r:=dJ (abL hi');obtain⟨Q,I,A,W,f2,rfl⟩:=h.cZ;obtain⟨L,J,x,M,f3,rfl⟩:=e.cZ;have F:nth b i=some [.int .i64 (abK Q),.str I,.str A,W,f2]:=by rw[ck];exact P
    have k:nth a i=some [.int .i64 (abK L),.str J,.str x,M,f3]:=by rw[ck];exact t
    repeat first|refine bZ rfl ?_|refine cc _ F ?_|refine cc _ k ?_
    repeat refine cf ?_
    refine R l[i] _ _ om h e ?_;repeat refine cf ?_
    exact Gc
   ·have hi':l.length<=i:=s▸dq E;exact y
theorem Rg(n:Nat)(ih:∀(t:Ty) (H l:cH),ct t<=n->eZ t H->eZ t l->∀{J:VS} {q:cO->VS->Prop},q (.ret (bX true)) J->bV C ca dT [.agg (H.map V.d),.agg (l.map V.d)] J q) 
  (t:Ty) (H l:cH) (P:ct t<=n+1) (aq:n+1<4294967295) (N:eZ t H) (K:eZ t l):bV C ca dT [.agg (H.map V.d),.agg (l.map V.d)] [] fun ai I=>I=[]/\ai=.ret (bX true):=by
 cases N with
 |mk ha U=>
  rename_i u ae E args b a ay;cases K with
  |mk Vs x=>
   rename_i a' ap;have aa:cy args+qa b<=n:=by simp only[ct]at P;omega
   have v:=nE b;have af:b.length<=cy (ea b):=by have:=dA (ea b);rwa[show(ea b).length=b.length from by simp[ea]]at this
   refine cm ?_;repeat first|refine a7 (oJ _) ?_|refine a7 (l0 _) ?_|refine a7 (mV _) ?_
   cases U with
   |nil=>
    cases x with
    |nil=>
     exact Vq
    |ps w=>
     cases w;exact Vq
   |ps g=>
    cases x with
    |nil=>
     cases g;exact Vq
    |ps w=>
     rename_i ao am G m Q X A c;have B:=g.len;have T:=w.len;have o:(!decide (abK m.length=abK c.length))=false:=by rw[B,T];exact oJ _
     repeat first|refine a7 (oJ _) ?_|refine a7 (l0 _) ?_|refine a7 o ?_
     refine cD (dB:=[(2,.bp 0 0),(3,.bp 1 0),(5,bW 0)]) ?_;refine cd.iter (fun i:Nat=>[(2,.bp 0 0),(3,.bp 1 0),(5,bW i)]) (fun _=>[.box (qk u ae E a (.ps ao am 7 G m)),.box (qk u ae E a' (.ps Q X 7 A c))]) (fun i=>b.length-i) (fun i=>i<=b.length) ?_ 0 (aeu _);intro i ar;apply aZ<;>intro M
     ·have hi':i<b.length:=B▸ee M;obtain⟨r,Y,h,j,z⟩:=g.get hi';obtain⟨ac,W,f,k,y⟩:=w.get hi';have e:nth m i=some (fe r):=by rw[ck];exact Y
      have d:nth c i=some (fe ac):=by rw[ck];exact W
      have s:ct b[i].2.1<=cy (ea b):=dJ (aeO (abL hi'));generalize b[i]=aj at h j z f k y s;obtain⟨O,au,an,ad,ah,al,p⟩:=r;obtain⟨R,av,aw,ag,ax,ak,S⟩:=ac;obtain⟨L,F,D⟩:=aj;have h:L=O:=h;have f:L=R:=f;have j:D=p:=j;have k:D=S:=k;have s:ct F<=cy (ea b):=s;subst h f j k;repeat first|refine bZ rfl ?_|refine cc _ e ?_|refine cc _ d ?_|refine a7 (l0 _) ?_|refine a7 (mV _) ?_
      repeat refine a6 (by repeat' (first|exact tv|exact rfl|refine bZ rfl ?_|refine bZ rfl ?_|refine cc _ e ?_|refine cc _ d ?_|refine a7 (l0 _) ?_|refine a7 (mV _) ?_|refine aeQ ?_ ?_)) ?_
      repeat first|refine a7 (oJ _) ?_|refine a7 (l0 _) ?_|refine a7 (mV _) ?_
      refine ih F _ _ om z y ?_;repeat refine a6 (by repeat' (first|exact tv|exact rfl|refine bZ rfl ?_|refine bZ rfl ?_|refine cc _ e ?_|refine cc _ d ?_|refine a7 (l0 _) ?_|refine a7 (mV _) ?_|refine aeQ ?_ ?_)) ?_
      repeat first|refine a7 (oJ _) ?_|refine a7 (l0 _) ?_|refine a7 (mV _) ?_
      repeat refine a6 (by repeat' (first|exact tv|exact rfl|refine bZ rfl ?_|refine bZ rfl ?_|refine cc _ e ?_|refine cc _ d ?_|refine a7 (l0 _) ?_|refine a7 (mV _) ?_|refine aeQ ?_ ?_)) ?_
      repeat first|refine a7 (oJ _) ?_|refine a7 (l0 _) ?_|refine a7 (mV _) ?_
      exact Gc
     ·have hi':b.length<=i:=B▸dq M;refine zM n ih args a a' om om ha Vs ?_;refine a8 0 ⟨Z,Z⟩
theorem ya:∀(f:Nat) (b:Ty) (d a:cH),f<4294967295->ct b<=f->eZ b d->eZ b a->∀{e:VS} {i:cO->VS->Prop},i (.ret (bX true)) e->bV C ca dT [.agg (d.map V.d),.agg (a.map V.d)] e i:=by
 intro f;induction f with
 |zero=>intro b d a _ s;have:=gO b;omega
 |succ f n=>
  intro b d a m s h c e i hk;have h0:=Rg f (fun b d a k j l=>n b d a om k j l) b d a s m h c;obtain⟨E,F,w,B,D,rfl⟩:=h.cZ;obtain⟨y,A,t,x,z,rfl⟩:=c.cZ;exact NE
theorem H5(a:Int):(!decide (a=a))=false:=by simp
variable{q v:D}
theorem eR.inv2{l:List hZ}(h:eR l q):∃a,qi l a/\((a=[]/\q=.ci)∨∃b d c,q=.ps b d 8 c a):=by
 exact ab7
theorem fR.inv2{l:List Ex}(h:fR l q):∃a,jt l a/\((a=[]/\q=.ci)∨∃b d c,q=.ps b d 8 c a):=by
 exact ab7
theorem U5{i:Ex}{m n s:cq}{types:List Ty}(t:fB i)(l:i=.mk g m n s u types o p):∀j∈o,ct j.ty<=cP i:=by
 intro j d;have b:∀{g:Nat},k8 g o->cy (if g=8 then o.map hZ.ty else [])+1<=cP i->ct j.ty<=cP i:=by
  intro g a k;have h:=a.ty j d;by_cases e:g=8
  ·rw[if_pos e]at k;have:=dJ (aeO (f:=hZ.ty) d);omega
  ·rw[if_neg e]at h;rw[h.1];have:ct cV=1:=dc;omega
 subst l;have c:=fJ (.mk g m n s u types o p);rw[k7]at c;cases t with
 |Rz a _=>exact b a (by rw[c,ga];omega)
 |func a _=>exact b a (by rw[c,ga];omega)
 |call a _=>exact b a (by rw[c,ga];omega)
 |mat _ a _=>exact b a (by rw[c,ga];omega)
 |_=>cases d
theorem Bl{C:dR}{c:ql}{f:Type}{σ:VS}(a:f->Tm)(k:f->Nat)(I:f->Prop){l:uw}{b:Code}{d:List fq}{e:lJ}{w:Bu->Tm->List fq->lJ->VS->Prop} 
  (y:∀n,I n->vc C c l b (a n) d e σ fun x s h i j=>match x with
   |.norm=>∃m,I m/\k m<k n/\Gz l.fl (a m) σ d e s j/\h=d/\i=e
   |x=>w x s h i j) (n:f) (t:I n):cd C c l (.loop b) (a n) d e σ w:=cd.iter a (fun _=>σ) k I y n t
theorem adm {a:Prop} (b:a:=by
 first
  |(refine cd.loop ?_
    exact a8 0 ⟨Z,Z⟩)
  |(refine cD (dB:=[(2,.bp 0 0),(3,.bp 1 0),(8,bW 0)]) ?_
    refine Bl (fun i:Nat=>[(2,.bp 0 0),(3,.bp 1 0),(8,bW i)]) (fun i=>kids.length-i) (fun i=>i<=kids.length) ?_ 0 (Nat.zero_le _);intro i hi;apply aZ<;>intro hc
    ·try exact absurd (hKK▸ee hc) (Nat.not_lt_zero _)
     all_goals
      have hi':i<kids.length:=e2▸ee hc;have hle:=j7 (List.getElem_mem hi');obtain⟨d,hx,vy⟩:=hkl.get hi';obtain⟨d',hy,Y5⟩:=adn.get hi';have hai:=hak _ (List.getElem_mem hi');obtain⟨k2,m2,n2,x2,abT,ty2,lb2,kd2,rfl⟩:=vy.eight;obtain⟨k3,m3,n3,x3,aem,ty3,lb3,kd3,rfl⟩:=Y5.eight;have RB:nth my i=some [.int .i64 (Int.ofNat k2),.str m2,.str n2,.str x2,.int .i64 abT,ty2,lb2,kd2]:=by rw[ck];exact hx
      have RC:nth Z2 i=some [.int .i64 (Int.ofNat k3),.str m3,.str n3,.str x3,.int .i64 aem,ty3,lb3,kd3]:=by rw[ck];exact hy
      repeat first|refine bZ rfl ?_|refine cc _ RB ?_|refine cc _ RC ?_
      repeat refine cf ?_
      refine ih kids[i] _ _ om hai vy Y5 ?_;repeat refine cf ?_
      exact Fb
    ·exact a8 0 ⟨Z,Z⟩)):a:=b
theorem Rh(k:Nat)(ih:∀(j:Ex) (d d':cH),cP j<=k->ej j->je j d->je j d'->∀{G:VS} {r:cO->VS->Prop},r (.ret (bX true)) G->bV C ca fN [.agg (d.map V.d),.agg (d'.map V.d)] G r) 
  (j:Ex) (d d':cH) (X:cP j<=k+1) (U:k+1<4294967295) (w:ej j) (M:je j d) (J:je j d'):bV C ca fN [.agg (d.map V.d),.agg (d'.map V.d)] [] fun ae F=>F=[]/\ae=.ret (bX true):=by
 have f:=fJ j;cases M with
 |mk O T A=>
 rename_i au ax av ar aa types a kids am an ai;cases J with
 |mk B D m=>
 rename_i o ac ad;have t:=U5 w.node rfl;have S:=wb w rfl om;have I:cy types<=k:=by rw[k7,ga]at f;omega
 have v:cQ kids<=k:=by rw[Ex.kids]at f;omega
 have p:=ju kids;have hak:=w.kids;clear f;obtain⟨l,c,L⟩:=T.inv2;obtain⟨h,e,n⟩:=D.inv2;obtain⟨my,hkl,E⟩:=A.inv2;obtain⟨Z2,adn,s⟩:=m.inv2;have Y:=c.len;have e2:=hkl.len;have b:l.length=h.length:=by rw[c.len,e.len]
 have hKK:my.length=Z2.length:=by rw[hkl.len,adn.len]
 refine cm ?_;rcases L with⟨rfl,rfl⟩|⟨aw,aq,ay,rfl⟩<;>rcases n with⟨rfl,rfl⟩|⟨ah,ao,ag,rfl⟩<;>rcases E with⟨rfl,rfl⟩|⟨al,aj,ak,rfl⟩<;>rcases s with⟨rfl,rfl⟩|⟨u,q,ab,rfl⟩;all_goals
  repeat first|refine a7 (oJ _) ?_|refine a7 (l0 _) ?_|refine a7 (H5 _) ?_|refine a7 (ry b) ?_|refine a7 (ry hKK) ?_|refine a7 (mV _) ?_
  refine zM k (fun ap d d' Q N W=>ya k ap d d' om Q N W) types _ _ I om O B ?_;repeat first|refine a7 (oJ _) ?_|refine a7 (l0 _) ?_|refine a7 (H5 _) ?_|refine a7 (ry b) ?_|refine a7 (ry hKK) ?_|refine a7 (mV _) ?_
  first
   |(refine cd.loop ?_
     exact adm)
   |(refine cD (dB:=[(2,.bp 0 0),(3,.bp 1 0),(5,bW 0)]) ?_
     refine Bl (fun i:Nat=>[(2,.bp 0 0),(3,.bp 1 0),(5,bW i)]) (fun i=>a.length-i) (fun i=>i<=a.length) ?_ 0 (aeu _);intro i hi;apply aZ<;>intro hc
     ·try exact absurd (b▸ee hc) (Nat.not_lt_zero _)
      all_goals
       have hi':i<a.length:=Y▸ee hc;have hle:=t _ (abL hi');obtain⟨d,hx,vy⟩:=c.get hi';obtain⟨d',hy,Y5⟩:=e.get hi';generalize a[i]=af at hx hy vy Y5 hle;obtain⟨k2,m2,z,g,f2,rfl⟩:=vy.cZ;obtain⟨k3,m3,y,R,f3,rfl⟩:=Y5.cZ;obtain⟨K,H,P,x⟩:=af;have RB:nth l i=some [.str K,.str H,.int .i64 (abK k2),.str m2,.str z,g,f2,.bool x]:=by rw[ck];exact hx
       have RC:nth h i=some [.str K,.str H,.int .i64 (abK k3),.str m3,.str y,R,f3,.bool x]:=by rw[ck];exact hy
       repeat first|refine bZ rfl ?_|refine cc _ RB ?_|refine cc _ RC ?_
       repeat refine cf ?_
       repeat first|refine a7 (oJ _) ?_|refine a7 (l0 _) ?_|refine a7 (H5 _) ?_|refine a7 (ry b) ?_|refine a7 (ry hKK) ?_|refine a7 (mV _) ?_
       refine ya (k+1) P _ _ U (Nat.le_trans hle X) vy Y5 ?_;repeat first|refine a7 (oJ _) ?_|refine a7 (l0 _) ?_|refine a7 (H5 _) ?_|refine a7 (ry b) ?_|refine a7 (ry hKK) ?_|refine a7 (mV _) ?_
       exact⟨i+1,hi',iK,.eD 2,Z,Z⟩
     ·exact adm)
theorem U6:∀(e:Nat) (b:Ex) (d a:cH),e<4294967295->cP b<=e->ej b->je b d->je b a->∀{f:VS} {i:cO->VS->Prop},i (.ret (bX true)) f->bV C ca fN [.agg (d.map V.d),.agg (a.map V.d)] f i:=by
 intro e;induction e with
 |zero=>intro b d a _ A;have:=gP b;omega
 |succ e s=>
  intro b d a n A t h c f i hk;have h0:=Rh e (fun b d a k j m=>s b d a om k j m) b d a A n t h c;obtain⟨K,L,e,J,x,G,H,D,rfl⟩:=h.eight;obtain⟨F,I,B,E,l,w,y,z,rfl⟩:=c.eight;exact NE
abbrev EqR(n:Nat):Prop:=∀(c e:Ty) (d a:cH),ct c<=n->eZ c d->eZ e a->∀{b:VS} {f:cO->VS->Prop},(∀h:Bool,(c=e->h=true)->f (.ret (bX h)) b)->bV C ca dT [.agg (d.map V.d),.agg (a.map V.d)] b f
theorem Nr(n:Nat)(L:EqR n)(X:n<4294967295){l c:List Ty}(U:cy l<=n)(M:fA l q)(Vs:fA c v):bV C ca gn [.d q,.d v] [] fun T E=>E=[]/\Ij (l=c) T:=by
 have O:=dA l;refine cm ?_;cases M with
 |nil=>
  exact Yz
 |ps h BM=>
  rename_i R P f els;have e1:=h.len;cases Vs with
  |nil=>
   rcases els with _|⟨x0,xr⟩
   ·exact absurd Z BM
   ·exact XW
  |ps x N=>
   rename_i w F a wl;have e2:=x.len;apply aZ<;>intro hc
   ·exact Vw
   ·have J:els.length=wl.length:=by
     exact XL
    refine cD (dB:=[(0,.d (.ps R P 5 f els)),(1,.d (.ps w F 5 a wl)),(5,bW 0)]) ?_;refine cd.iter (fun i:Nat=>[(0,.d (.ps R P 5 f els)),(1,.d (.ps w F 5 a wl)),(5,bW i)]) (fun _=>[]) (fun i=>l.length-i) (fun i=>i<=l.length) ?_ 0 (aeu _);intro i W;apply aZ<;>intro I
    ·have hi':i<l.length:=e1▸ee I;have z:i<c.length:=om;obtain⟨Y,K,j⟩:=h.get hi';obtain⟨V,m,b⟩:=x.get z;have S:=dJ (abL hi');obtain⟨G,s,e,H,f2,rfl⟩:=j.cZ;obtain⟨y,t,d,A,f3,rfl⟩:=b.cZ;have B:nth els i=some [.int .i64 (abK G),.str s,.str e,H,f2]:=by rw[ck];exact K
     have k:nth wl i=some [.int .i64 (abK y),.str t,.str d,A,f3]:=by rw[ck];exact m
     repeat first|refine bZ rfl ?_|refine cc _ B ?_|refine cc _ k ?_
     repeat refine cf ?_
     refine L l[i] c[i] [.int .i64 (abK G),.str s,.str e,H,f2] [.int .i64 (abK y),.str t,.str d,A,f3] om j b (fun bb hb=>?_);repeat refine cf ?_
     apply aZ<;>intro h2
     ·exact aap
     ·exact Fb
    ·exact Iw
theorem OZ(n:Nat)(i:EqR n)(f:n<4294967295){l a:List Ty}(d:cy l<=n)(j:fA l q)(b:fA a v){σ:VS}{K:cO->VS->Prop}(h:∀c:Bool,(l=a->c=true)->K (.ret (bX c)) σ):bV C ca gn [.d q,.d v] σ K:=
 bV.closed (P:=Ij (l=a)) ((Nr n i f d j b).mono fun t s k=>⟨k.1,by obtain⟨w,_,m⟩:=k.2;rw[m];rfl,k.2⟩) rfl (fun t ⟨c,e,m⟩=>by rw[m];exact h c e)
theorem Ns(n:Nat)(ih:EqR n)(aM:n+1<4294967295){t ar:Ty}{an M:cH}(U:ct t<=n+1)(ac:eZ t an)(H:eZ ar M):bV C ca dT [.agg (an.map V.d),.agg (M.map V.d)] [] fun aF Q=>Q=[]/\Ij (t=ar) aF:=by
 cases ac with
 |mk ha p=>
 rename_i al aq F m a aw aO;cases H with
 |mk Vs y=>
 rename_i L R A s c ab aG;have ai:cy m+qa a<=n:=by simp only[ct]at U;omega
 have am:=nE a;have au:a.length<=cy (ea a):=by have:=dA (ea a);rwa[show(ea a).length=a.length from by simp[ea]]at this
 refine cm ?_;apply aZ<;>intro af
 ·repeat refine de ?_
  exact a8 0 ⟨Z,gR fun e=>by cases e;simp at af⟩
 repeat refine de ?_
 apply aZ<;>intro v
 ·repeat refine de ?_
  exact a8 0 ⟨Z,gR fun e=>by cases e;simp at v⟩
 repeat refine de ?_
 apply aZ<;>intro X
 ·repeat refine de ?_
  exact a8 0 ⟨Z,gR fun e=>by cases e;simp at X⟩
 repeat refine de ?_
 cases p with
 |nil=>
  cases y with
  |nil=>
   repeat refine de ?_
   refine cd.loop ?_;exact RU
  |ps x=>
   rename_i f;have E:=x.len;rcases f with _|⟨g,u⟩
   ·repeat refine de ?_
    refine cd.loop ?_;exact RU
   ·repeat refine de ?_
    exact a8 0 ⟨Z,gR fun e=>by cases e;simp at E⟩
 |ps ap=>
  rename_i b ax O k;have w:=ap.len;cases y with
  |nil=>
   rcases k with _|⟨g,u⟩
   ·repeat refine de ?_
    refine cd.loop ?_;exact RU
   ·repeat refine de ?_
    exact a8 0 ⟨Z,gR fun e=>by cases e;simp at w⟩
  |ps x=>
   rename_i o r D f;have E:=x.len;repeat refine de ?_
   apply aZ<;>intro l
   ·repeat refine de ?_
    refine a8 0 ⟨Z,gR fun e=>?_⟩;cases e;rw[w,E]at l;simp at l
   repeat refine de ?_
   have W:k.length=f.length:=AJ (zJ l);refine cD (dB:=[(2,.bp 0 0),(3,.bp 1 0),(5,bW 0)]) ?_;refine cd.iter (fun i:Nat=>[(2,.bp 0 0),(3,.bp 1 0),(5,bW i)]) (fun _=>[.box (qk al aq F aw (.ps b ax 7 O k)),.box (qk L R A ab (.ps o r 7 D f))]) (fun i=>a.length-i) (fun i=>i<=a.length) ?_ 0 (aeu _);intro i aH;apply aZ<;>intro l
   ·have hi':i<a.length:=w▸ee l;have G:i<c.length:=om;obtain⟨T,Y,I,J,B⟩:=ap.get hi';obtain⟨S,q,P,N,z⟩:=x.get G;have j:nth k i=some (fe T):=by rw[ck];exact Y
    have h:nth f i=some (fe S):=by rw[ck];exact q
    have K:ct a[i].2.1<=cy (ea a):=dJ (aeO (abL hi'));have d:Ty.mk al aq F m a=Ty.mk L R A s c->T.n=S.n/\T.o=S.o/\a[i].2.1=c[i].2.1:=fun e=>by
     cases e;exact⟨I.symm.trans P,J.symm.trans N,Z⟩
    generalize a[i].2.1=aa at B K d;generalize c[i].2.1=ad at z d;obtain⟨av,aN,az,aj,aI,aJ,aC⟩:=T;obtain⟨aK,aA,aB,ak,aE,aD,ay⟩:=S;repeat first|refine bZ rfl ?_|refine cc _ j ?_|refine cc _ h ?_|refine de ?_|refine cf ?_
    apply aZ<;>intro ag
    ·repeat first|refine bZ rfl ?_|refine cc _ j ?_|refine cc _ h ?_|refine de ?_|refine cf ?_
     exact a8 0 ⟨Z,gR fun e=>of_decide_eq_false (sh ag) (d e).1⟩
    repeat first|refine bZ rfl ?_|refine cc _ j ?_|refine cc _ h ?_|refine de ?_|refine cf ?_
    apply aZ<;>intro ae
    ·repeat first|refine bZ rfl ?_|refine cc _ j ?_|refine cc _ h ?_|refine de ?_|refine cf ?_
     exact a8 0 ⟨Z,gR fun e=>of_decide_eq_false (sh ae) (d e).2.1⟩
    repeat first|refine bZ rfl ?_|refine cc _ j ?_|refine cc _ h ?_|refine de ?_|refine cf ?_
    refine ih aa ad _ _ om B z (fun aL hb=>?_);repeat first|refine bZ rfl ?_|refine cc _ j ?_|refine cc _ h ?_|refine de ?_|refine cf ?_
    apply aZ<;>intro ah
    ·refine a8 0 ⟨Z,gR fun e=>?_⟩;have:=hb (d e).2.2;rw[sh ah]at this;cases this
    ·exact Fb
   ·have hi':a.length<=i:=w▸dq l;exact RU
theorem KS:∀(b:Nat),b<4294967295->EqR b:=by
 intro b;induction b with
 |zero=>intro _ l s B i c;have:=gO l;omega
 |succ b k=>
  intro j l s B i c d a E G h;have e:=Ns b (k om) j c d a;obtain⟨J,K,w,H,I,rfl⟩:=d.cZ;obtain⟨A,F,t,z,D,rfl⟩:=a.cZ;exact bV.closed (P:=Ij (l=s)) (e.mono fun x n c=>⟨c.1,by obtain⟨y,_,m⟩:=c.2;rw[m];rfl,c.2⟩) Z (fun x ⟨C,f,m⟩=>by rw[m];exact h C f)
theorem U7:eZ cV [.int .i64 (abK 0),.str [],.str [],.ci,.ci]:=.mk .nil .nil
theorem lT{d:cH}(a:eZ cV d){σ:VS}{K:cO->VS->Prop}(b:K (.ret (bX true)) σ):bV C ca uS [.agg (d.map V.d)] σ K:=by
 obtain⟨f,h,c,i,e,rfl⟩:=a.cZ;refine cC ?_ Z Z b;refine cm ?_;refine ya 1 cV _ [.int .i64 (abK 0),.str [],.str [],.ci,.ci] dc dc a U7 ?_;exact a8 0 ⟨Z,Z⟩
theorem xR(a:jX)(E:cH)(k:rs a E)(P:ct a.lo<4294967295/\ct a.up<4294967295):bV C ca pW [.agg (E.map V.d)] [] fun F h=>h=[]/\Ij (a.lo=a.up/\a.up=a.ty) F:=by
 obtain⟨I,l,w,B,z,f1,y,m,D,A,f2,d,b,c,f,f3,J,Q,H,G,M,t4,N,d4,K,n,x,e,L,rfl⟩:=eK k;refine cm ?_;refine KS (ct a.lo) om a.lo a.ty (eQ l w B z f1) (eQ d b c f f3) (aet _) n e (fun O s=>?_);cases O with
 |true=>
  refine KS (ct a.up) om a.up a.ty (eQ y m D A f2) (eQ d b c f f3) (aet _) x e (fun t i=>?_);exact a8 0 ⟨Z,t,fun j=>i j.2,Z⟩
 |false=>
  exact a8 0 ⟨Z,gR fun j=>absurd (s (j.1.trans j.2)) dc⟩
theorem wrA{n a:Nat}(b:n+a<4611686018427387904):IntKind.i64.wrap (IntKind.i64.wrap (abK n+1)+abK a)=abK (n+(1+a)):=by
 rw[cp om,c4 om,<-Nat.add_assoc]
def rmT(a:Nat×Nat):Tm:=[(1,.bp 0 0),(3,bW a.2),(4,bW a.1)]
def ado(b:Nat)(a:Nat×Nat):Tm:=[(1,.bp 0 0),(3,bW a.2),(4,bW b),(5,.bp 1 0),(6,bW a.1)]
theorem H6(ab:FO)(av:cH)(aE:At ab av)(aK:Bk ab<1073741824)(M:∀x∈ab.ds,x.k=1->ej x.ex):bV C ca hY [.agg (av.map V.d)] [] fun r J=>J=[]/\∃n,n<=Bk ab/\r=.ret (bW n):=by
 obtain⟨w,aa,hi,t,rfl⟩:=aE;obtain⟨bf,lY,nL⟩:=ab;have aN:1+lY.length+gL nL<1073741824:=aK;have M:∀x∈nL,x.k=1->ej x.ex:=M;have aO:=vp nL;have hi:wY lY w:=hi;have t:zn nL aa:=t;have c:∃L:Nat,L=lY.length/\((w=.ci/\L=0)∨∃U af ag,w=.ps U af 2 ag (lY.map fF)):=by
  exact ab9
 clear hi;obtain⟨L,hL,hi⟩:=c;have hw1:∀ai,ai=L->IntKind.i64.wrap (1+abK ai)=abK (1+L):=fun ai K=>wr0 om K;rcases hi with⟨rfl,hL0⟩|⟨bj,aT,aW,rfl⟩;all_goals
  refine cm ?_;cases t with
  |nil=>
   exact YC
  |ps h aj=>
   rename_i U af ag ad;have Bm:=h.len;refine cd.less (dB:=rmT (0,1+L)) ⟨Z,by first|exact int_eq (hw1 0 hL0.symm)|exact int_eq (hw1 _ (by rw[List.length_map];exact hL.symm)),Z,tv⟩ ?_;refine cd.iter rmT (fun _=>_) (fun x=>nL.length-x.1) (fun x=>x.1<=nL.length/\x.2<=1+L+gL (nL.take x.1)) ?_ (0,1+L) ⟨aeu _,Nat.le_add_right _ _⟩;rintro⟨j,n⟩ ⟨T,R⟩;have aX:j<=nL.length:=T;have hnj:n<=1+L+gL (nL.take j):=R;have aQ:=Cf nL j;apply aZ<;>intro hc
   ·have lU:j<nL.length:=Bm▸ee hc;have p:=FZ lU;have al:=Cf nL (j+1);obtain⟨av,ap,k⟩:=h.get lU;obtain⟨x,E⟩:∃x,x=nL[j]:=⟨_,rfl⟩;have I:x.k=1->ej x.ex:=by rw[E];exact M _ (abL lU)
    rw[<-E]at k p;obtain⟨ps,aF,aC,ay,ax,f1,aq,aG,az,aD,f2,P,N,O,S,f3,bk,aY,bl,ba,bc,t4,aV,d4,h1,aA,ao,Q,q,rfl⟩:=eK k;have ac:=(ck ad j).trans ap;have s:∃e:Nat,e=x.ps.length/\((ps=.ci/\e=0)∨∃U af ag m,ps=.ps U af 7 ag m/\vb x.ps m/\m.length=e):=by
     exact Vv
    obtain⟨e,B,s⟩:=s;have aS:e<1073741824:=by
     have:=zC x;omega
    have b:∀ak,ak=e->IntKind.i64.wrap (IntKind.i64.wrap (abK n+1)+abK ak)=abK (n+(1+e)):=fun ak K=>by
     subst K;exact wrA om
    refine bZ Z ?_;refine cc _ ac ?_;rcases s with⟨rfl,d⟩|⟨bm,be,aU,m,rfl,H,f⟩;all_goals
     apply aZ<;>intro au
     ·have a:x.k=1:=AJ (b:=1) au;have F:decide (abK x.k=0)=false:=by rw[a];rfl
      have y:=wh a;rw[<-B]at y;first
       |refine cd.loop ?_
        have aM:lX x.ps=0:=by rw[List.eq_nil_of_length_eq_zero (B.symm.trans d)];rfl
        repeat refine cf ?_
        refine kx _ x.ty (eQ P N O S f3) om (aet _) Q ?_;repeat refine cf ?_
        refine vw _ x.ex _ om (aet _) (I a) q ?_;repeat refine cf ?_
        repeat refine de ?_
        exact⟨(j+1,n+(1+e)+ct x.ty+cP x.ex),⟨lU,by show _<=1+L+gL (nL.take (j+1));omega⟩,iK,.pick 0 [0] ⟨Z,int_eq (by rw[b _ d.symm,c4 om,c4 om]),int_eq (cp om),tv⟩ Z Z Z Z Z dc ⟨Z,Z,tv⟩,Z,Z⟩
       |refine cd.less (dB:=ado j (0,n+(1+e))) ⟨rfl,int_eq (b _ f),rfl,rfl,rfl,tv⟩ ?_
        refine cd.iter (ado j) (fun _=>_) (fun u=>x.ps.length-u.1) (fun u=>u.1<=x.ps.length/\u.2=n+(1+e)+lX (x.ps.take u.1)) ?_ (0,n+(1+e)) ⟨aeu _,Z⟩;rintro⟨i,A⟩ ⟨T,R⟩;have hi:i<=x.ps.length:=T;have ae:A=n+(1+e)+lX (x.ps.take i):=R;have aI:=Ce x.ps i;have z:=H.len;apply aZ<;>intro G
        ·have c:i<x.ps.length:=z▸ee G;have aP:=FY c;have aB:=Ce x.ps (i+1);obtain⟨bh,aw,aH,D9,rfl⟩:=H.get c;obtain⟨ar,am,an,ah,f7,rfl⟩:=D9.cZ;have W:=(ck m i).trans aw;refine bZ Z ?_;refine cc _ W ?_;refine kx _ x.ps[i].b (eQ ar am an ah f7) om (aet _) D9 ?_;exact⟨(i+1,A+ct x.ps[i].b),⟨c,by show A+ct x.ps[i].b=_+lX (x.ps.take (i+1));omega⟩,iK,.pick 0 [0,1] ⟨Z,int_eq (c4 om),Z,Z,int_eq (cp om),tv⟩ Z Z Z Z Z dc ⟨Z,Z,Z,Z,tv⟩,Z,Z⟩
        ·have Y:x.ps.length<=i:=z▸dq G;rw[List.take_of_length_le Y]at ae;repeat refine cf ?_
         refine kx _ x.ty (eQ P N O S f3) om (aet _) Q ?_;repeat refine cf ?_
         refine vw _ x.ex _ om (aet _) (I a) q ?_;repeat refine cf ?_
         repeat refine de ?_
         exact⟨(j+1,A+ct x.ty+cP x.ex),⟨lU,by show _<=1+L+gL (nL.take (j+1));omega⟩,iK,.pick 0 [0] ⟨Z,int_eq (by rw[c4 om,c4 om]),int_eq (cp om),tv⟩ Z Z Z Z Z dc ⟨Z,Z,tv⟩,Z,Z⟩
     ·apply aZ<;>intro F
      ·have l:x.k=0:=AJ (b:=0) F;obtain⟨v,aR,aL⟩:=AE l;rw[<-B]at v;refine kx _ x.ty (eQ P N O S f3) om (aet _) Q ?_;refine bV.closed (P:=fun r=>Ij (x.lo=x.up/\x.up=x.ty) r) ((xR x _ k ⟨om,om⟩).mono fun r J h=>⟨h.1,by obtain⟨aH,_,K⟩:=h.2;rw[K];rfl,h.2⟩) Z (fun r aJ=>?_);obtain⟨bg,g,rfl⟩:=aJ;apply aZ<;>intro X
       ·have o:¬(x.lo=x.up/\x.up=x.ty):=fun K=>by rw[g K]at X;cases X
        have y:=DP l o;rw[<-B]at y;repeat refine cf ?_
        refine kx _ x.lo (eQ aF aC ay ax f1) om (aet _) aA ?_;repeat refine cf ?_
        refine kx _ x.up (eQ aq aG az aD f2) om (aet _) ao ?_;repeat refine cf ?_
        exact⟨(j+1,n+(1+e)+ct x.ty+ct x.lo+ct x.up),⟨lU,by show _<=1+L+gL (nL.take (j+1));omega⟩,iK,.pick 0 [0] ⟨Z,int_eq (by rw[b _ (by first|exact d.symm|exact f),c4 om,c4 om,c4 om]),int_eq (cp om),tv⟩ Z Z Z Z Z dc ⟨Z,Z,tv⟩,Z,Z⟩
       ·exact⟨(j+1,n+(1+e)+ct x.ty),⟨lU,by show _<=1+L+gL (nL.take (j+1));omega⟩,iK,.pick 0 [0] ⟨Z,int_eq (by rw[b _ (by first|exact d.symm|exact f),c4 om]),int_eq (cp om),tv⟩ Z Z Z Z Z dc ⟨Z,Z,tv⟩,Z,Z⟩
      ·exact⟨(j+1,n+(1+e)),⟨lU,by show _<=1+L+gL (nL.take (j+1));have:=zC x;omega⟩,iK,.pick 0 [0] ⟨Z,int_eq (by rw[b _ (by first|exact d.symm|exact f)]),int_eq (cp om),tv⟩ Z Z Z Z Z dc ⟨Z,Z,tv⟩,Z,Z⟩
   ·exact Zd
def U8(l:List cq)(c:UInt8):List cq:=if c.toNat=47 then l++[[]]else l.dropLast++[l.getLastD []++[c]]
theorem KT(l:cq)(c:UInt8):c0 (l++[c])=U8 (c0 l) c:=by
 unfold U8;induction l with
 |nil=>
  rw[List.nil_append,c0,c0,c0];split<;>rfl
 |cons i l f=>
  rw[List.cons_append,c0,c0,f];obtain⟨e,b,h⟩:∃e b,c0 l=e::b:=by
   cases k:c0 l with
   |nil=>exact absurd k (lR l)
   |cons e b=>exact⟨e,b,rfl⟩
  rw[h];by_cases d:i.toNat=47
  ·rw[if_pos d,if_pos d];by_cases a:c.toNat=47
   ·rw[if_pos a,if_pos a];rfl
   ·rw[if_neg a,if_neg a];rfl
  ·rw[if_neg d,if_neg d];by_cases a:c.toNat=47
   ·rw[if_pos a,if_pos a];rfl
   ·rw[if_neg a,if_neg a];cases b with
    |nil=>rfl
    |cons m j=>rfl
theorem zF(t:cq):(c0 t).length<=t.length+1/\∀b∈c0 t,b.length<=t.length:=by
 induction t with
 |nil=>
  rw[c0];exact⟨aet _,fun b hx=>by rw[List.mem_singleton.1 hx];exact aet _⟩
 |cons i e a=>
  rw[c0];split
  ·refine⟨by simp only[List.length_cons];omega,fun b hx=>?_⟩;rcases List.mem_cons.1 hx with rfl|hx
   ·exact aeu _
   ·have:=a.2 b hx;exact Im
  ·obtain⟨b,c,hx⟩:∃b c,c0 e=b::c:=by
    cases h:c0 e with
    |nil=>exact absurd h (lR e)
    |cons b c=>exact⟨b,c,rfl⟩
   rw[hx]at a⊢;refine⟨by have:=a.1;simp only[List.length_cons]at this⊢;omega,fun f d=>?_⟩;rcases List.mem_cons.1 d with rfl|d
   ·have:=a.2 b sm;exact Im
   ·have:=a.2 f (by simp[d]);exact Im
def mI(l:List cq):List cH:=l.map fun a=>[D.str a]
def sgT(s:cq)(a:Nat×List cq):Tm:=[(0,cn s),(3,.ms 0 1 0 a.2.length a.2.length),(4,bW a.1)]
def sgS(l:List cq):VS:=[.row 1 ((mI l).map fun a=>a.map V.d)]
def aen:Nat->Bool:=fun a=>aeT a 17
theorem Xv{l:List cq}(d:l≠[])(c:cq):((mI l).map fun a=>a.map V.d).set (0+(l.length-1)) [cn c]=(mI (l.dropLast++[c])).map fun a=>a.map V.d:=by
 have e:=List.dropLast_concat_getLast d;have b:l.length-1=l.dropLast.length:=by rw[aeS]
 rw[Nat.zero_add,b];conv=>lhs;rw[<-e]
 unfold mI;rw[aeM,aeM,aeM,aeM,List.set_append_right _ _ sm];simp;rfl
theorem abD(a:Nat)(l:List cq):some (V.ms a 1 0 (l.length+1) (l.length+1))=some (V.ms a 1 0 (l++[[]]).length (l++[[]]).length):=by rw[aeV];rfl
theorem Xw(f:Nat->Nat)(l:List cq):some (cN.row 1 (List.take l.length (List.drop 0 ((mI l).map fun a=>a.map V.d))++[[cn []]]))=some (dF f (.row 1 ((mI (l++[[]])).map fun a=>a.map V.d))):=by
 have b:=AG f 1 (mI l) [D.str []];rw[show(mI l).length=l.length from List.length_map _]at b;rw[show mI (l++[[]])=mI l++[[D.str []]]from aeM];exact b
theorem DT(s:cq)(P:s.length<=64):bV C ca lM [cn s] [] fun F z=>z=[]/\cM F=true/\∃w Q,F=.ret (.d (.ps w 0 1 Q (mI (c0 s)))):=by
 refine cv aen (fun _=>Z) ?_;refine cw (dB:=sgT s (0,[[]])) (fU:=sgS [[]]) .eS ?_;refine cd.iter (sgT s) (fun t=>sgS t.2) (fun t=>s.length-t.1) (fun t=>t.1<=s.length/\t.2=c0 (s.take t.1)) ?_ (0,[[]]) ⟨aeu _,Z⟩;rintro⟨d,a⟩ ⟨y,i⟩;have y:d<=s.length:=y;have i:a=c0 (s.take d):=i;have n:=zF (s.take d);rw[<-i,List.length_take,Nat.min_eq_left y]at n;have I:a.length<=d+1:=n.1;apply aZ<;>intro B
 ·have c:d<s.length:=ee B;have k:c0 (s.take (d+1))=U8 a s[d]:=by
   rw[List.take_add_one,aev c,i];exact KT _ _
  refine bZ Z (cc s[d] (by rw[ck];exact aev c) ?_);apply aZ<;>intro K
  ·have m:s[d].toNat=47:=AJ (b:=47) K;rw[U8,if_pos m]at k;intro L;refine a6 Z (a6 ⟨Z,Z,by simp[mI],aet _,rB (by show a.length<=_;omega) (aet _) (Nat.le_of_ble_eq_true Z)⟩ (a7 Z (a7 (fG _) ?_)));exact⟨(d+1,a++[[]]),⟨c,k.symm⟩,iK,.pick 0 [1] ⟨Z,abD _ a,int_eq (cp om),tv⟩ Z Z Z Z Z dc ⟨Xw _ a,AF _ _ _,tv⟩,Z,Z⟩
  ·have m:¬s[d].toNat=47:=ED (b:=47) K;rw[U8,if_neg m]at k;have j:a≠[]:=by rw[i];exact lR _
   have h:=aeU.2 j;have b:nth ((mI a).map fun N=>N.map V.d) (0+(a.length-1))=some [cn (a.getLastD [])]:=by
    have D:a[a.length-1]?=some (a.getLastD []):=by
     rw[aeR,List.getLast?_eq_getElem?,aev om];rfl
    rw[Nat.zero_add,ck,List.getElem?_map,mI,List.getElem?_map,D];rfl
   refine bZ (r8 (show 0<a.length from h) (show a.length<_ by omega)) (a6 (by show a.length-1<a.length;omega) ?_);refine cc [cn (a.getLastD [])] b ?_;have l:nth s d=some s[d]:=by rw[ck];exact aev c
   refine bZ Z (cc s[d] l ?_);intro M;refine xE [s[d]] Z Z ?_;have G:(a.getLastD []).length<=d:=by
    refine n.2 _ ?_;rw[aeR,List.getLast?_eq_some_getLast j];exact List.getLast_mem j
   refine a6 (by rw[aeN];omega) ?_;refine bZ (r8 (show 0<a.length from h) (show a.length<_ by omega)) (a6 (by show a.length-1<a.length;omega) ?_);have x:IntKind.i64.wrap (abK a.length-1)=abK (a.length-1):=r8 h om;have e:a.length-1<a.length:=om;have f:(a.getLastD []).length+[s[d]].length<=1099511627776:=by rw[aeN];omega
   repeat refine a6 (by repeat' (first|exact tv|exact rfl|refine bZ rfl ?_|refine bZ x ?_|exact e|refine a6 e ?_|refine cc _ b ?_|refine cc _ l ?_|refine xE [s[d]] rfl rfl ?_|exact f|refine a6 f ?_|refine aeQ ?_ ?_)) ?_
   refine cc [cn (a.getLastD [])] b ?_;repeat refine a6 (by repeat' (first|exact tv|exact rfl|refine bZ rfl ?_|refine bZ x ?_|exact e|refine a6 e ?_|refine cc _ b ?_|refine cc _ l ?_|refine xE [s[d]] rfl rfl ?_|exact f|refine a6 f ?_|refine aeQ ?_ ?_)) ?_
   have A:(a.dropLast++[a.getLastD []++[s[d]]]).length=a.length:=by rw[aeV,aeS,aeN];omega
   refine⟨(d+1,a.dropLast++[a.getLastD []++[s[d]]]),⟨c,k.symm⟩,iK,.same ⟨Z,?_,int_eq (cp om),tv⟩ ?_,Z,Z⟩
   ·show some (V.ms 0 1 0 a.length a.length)=some (V.ms 0 1 0 _ _);rw[A]
   ·exact congrArg (fun t=>[cN.row 1 t]) (Xv j _)
 ·have c:d=s.length:=by have:=dq B;omega
  rw[c,List.take_length]at i;refine cU.freeze 0 (es:=1) (l:=mI a) Z (gk _) (fun _=>⟨Z,by simp[mI]⟩) (fun w=>?_);have E:wq 0 w (mI a) (.ret (.ms 0 1 0 a.length a.length))=.ret (.d (.ps w (0*1) 1 a.length (mI a))):=by
   show cO.ret (o5 0 w (mI a) (.ms 0 1 0 a.length a.length))=_;rw[o5,kz];show cO.ret (.d (.ps w (0*1) 1 a.length (((mI a).drop 0).take a.length)))=_;rw[eT _ _ (by simp[mI])]
  refine cU.drop 0 Z (by rw[mJ]) ?_ (cU.now Z ?_)
  ·exact(congrArg (PY 0) E).trans Z
  ·refine⟨Z,(congrArg cM E).trans Z,w,a.length,E.trans ?_⟩;rw[i]
end Go.Proofs.YtpejealjkmhkgaaGreatDoor
