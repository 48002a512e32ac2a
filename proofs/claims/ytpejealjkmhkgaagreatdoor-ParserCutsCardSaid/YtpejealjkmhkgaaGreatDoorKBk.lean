/- Part of the proof. -/
import Derived.Test.YtpejealjkmhkgaaGreatDoorKBj
set_option linter.all false
set_option maxHeartbeats 16000000
set_option maxRecDepth 100000
open Nat renaming le_of_ble_eq_true->YL,le_refl->YN,beq->YU,zero_le->YV,zero_add->YW,ble_eq->YY,lt_of_lt_of_le->Y0
open List renaming length_cons->YM,length_append->YO,length_nil->YQ,length_set->YT,map->YX,getElem?_set_self->YZ
open And renaming intro->YP
open Int renaming ofNat->YR
open Bool renaming false_eq_true->YS
namespace Go.Proofs.YtpejealjkmhkgaaGreatDoor
open Go.AM Go.VM
theorem pz.V1{n:Nat}{σ a:VS}(v:pz n σ a){b:List Nat}(g:∀h∈b,h<n)(l:0<n){i:s7}{c:Code}{k:Tm}{e:FuncId}{u:zk->Tm->List e8->lm->VS->Prop}(o:i.fl=n) 
  (q:nU [(0,.bp 0 0),(1,.fn e [] (lX b))] k) (s:cl C b7 i c [(0,.bp 0 0),(1,.fn e [] (lX b))] [] .none a u):cl C b7 i c k [] .none σ u:=by
 obtain⟨d,m,r,p,t⟩:=v;have f:∀h,h<n->jg d σ.length h=h:=fun h j=>by
  have:=p0 m j;rw[jY this];omega
 refine cl.pick n d (eW:=[(0,.bp 0 0),(1,.fn e [] (lX b))]) ?_ ?_ (by rw[o,YY];exact YN n) m rfl rfl r t s
 ·show nU [(0,V.bp (jg d σ.length 0) 0),(1,V.fn e [] (gU (jg d σ.length) (lX b)))] k;rw[f 0 l,GX g f];exact q
 ·show(Nat.blt 0 a.length&&(((true&&e5 a.length (lX b))&&true)))=true;rw[K2 fun h j=>Y0 (g h j) p,show Nat.blt 0 a.length=true by rw[Nat.blt_eq];exact Y0 l p];rfl
def XB:Nat->Bool:=fun a=>YU a 5||YU a 13||YU a 1000002
theorem C7{m t:Type}{c:Rd}(T:c.Wf)(step:m->Nat->PR m)(I:m->t->Nat->Prop)(x:t->VS)(i:VS)(n:Nat)(o:FuncId)(R:(C.ff.get o).isSome=true)(k:List Nat){g0:m}{a0:t}{p:Nat}(aa:p<c.ts.length)(E:c0 (c.tok p) [91]=true)(L:I g0 a0 (p+1))(Q:∀j a q,I j a q->I j a (q+1))(W:i++[.gone]=x a0)(ad:i.length+1=n)(y:∀a,n<=(x a).length+1)(O:∀al∈k,al<n) 
  (ac:∀j a q,I j a q->p<=q->q<c.ts.length->∀A:dC->VS->Prop,
   (∀l g b d,step j q=.ok l b->I l g b->q<b->b<c.ts.length->pz n (dq c b::d) (dq c b::x g)->A (.ret (.dV [])) (dq c b::d))->
   (∀h e b d,step j q=.bad h e->n<=d.length+1->A (.eE (dt h e)) (dq c b::d))->b1 C b7 o (lX k) (dq c q::x a) A)
  {U:dC->VS->Prop} (D:∀j a q,hT step c g0 p=.ok j q->I j a q->p<q->q<c.ts.length->U (.ret (.dV [])) (dq c q::x a))
  (v:∀h e q d,hT step c g0 p=.bad h e->n<=d.length+1->U (.eE (dt h e)) (dq c q::d)):
  b1 C b7 Cc [.bp 0 0,.fn o [] (lX k)] (dq c p::i) U:=by
 have Y:=T.len;refine cA XB (fun _=>Z) ?_;intro aj;refine gM T [91] aa aj _ 0 Z (fun _ B=>?_) (fun ak=>absurd ak (by rw[E];decide));refine cl.less (eW:=[(0,.bp 0 0),(1,.fn o [] (lX k))]) ⟨Z,Z,tv⟩ ?_;refine cl.gone ?_;show cl _ _ _ _ _ _ _ (dq c (p+1)::(i++[.gone])) _;rw[W];refine cl.iter (fun _:Nat×m×t=>[(0,.bp 0 0),(1,.fn o [] (lX k))]) (fun a=>dq c a.1::x a.2.2) (fun a=>c.ts.length-a.1)
  (fun a=>p<a.1/\a.1<c.ts.length/\I a.2.1 a.2.2 a.1/\∃s,c.ts.length-a.1<=s/\hT step c g0 p=lA step c s a.2.1 a.1) ?_ (p+1,g0,a0) ⟨Nat.lt_succ_self p,B,L,_,by show c.ts.length-(p+1)<=c.ts.length;omega,by rw[hT,if_pos E]⟩
 rintro⟨q,j,a⟩ ⟨M,H,F,s,J,K⟩;have af:p<q:=M;have X:q<c.ts.length:=H;have P:I j a q:=F;have ai:c.ts.length-q<=s:=J;have f:hT step c g0 p=lA step c s j q:=K;clear M H F J K L;obtain⟨s,rfl⟩:∃ab,s=ab+1:=⟨s-1,om⟩;rw[lA]at f;conv=>whnf
 rw[R];refine ac j a q P om X _ (fun l g b d e w ae r N=>?_) (fun h ah b d e G=>?_)
 ·rw[e]at f;dsimp only at f;refine N.V1 O om ad ⟨Z,Z,tv⟩ ?_;refine uX ?_;refine cG c b (c.tok b) [44] (bZ r) om 0 Z (fun u=>?_) (fun u=>?_)
  ·rw[if_pos u]at f;refine⟨(b+1,l,g),⟨by show p<b+1;omega,T.step r u,Q _ _ _ w,s,by show c.ts.length-(b+1)<=s;omega,f⟩,by show c.ts.length-(b+1)<c.ts.length-q;omega,.same ⟨rfl,rfl,tv⟩ rfl,rfl,rfl⟩
  ·rw[if_neg (by rw[u];decide)]at f;intro V;refine gM T [93] r V _ 0 Z (fun z S=>?_) (fun z ag=>?_)
   ·rw[tC z]at f;refine cP.now (by rw[YY];show i.length+1<=(x g).length+1;have:=y g;omega) ?_;exact D l g (b+1) f (Q _ _ _ w) om S
   ·refine cP.now (by rw[YY];show i.length+1<=(x g).length+1;have:=y g;omega) ?_;exact v _ _ _ _ (by rw[f];simp only[cu,z,if_false,YS,PR.map]) (y g)
 ·rw[e]at f;refine cP.now (by rw[YY];show i.length+1<=d.length+1;omega) ?_;exact v _ _ _ _ f G
theorem wU.len{l:List mv}{a:List (List D)}(d:wU l a):a.length=l.length:=by
 induction l generalizing a with
 |nil=>cases d;rfl
 |cons f l b=>cases d with|cons e c=>simp[b c]
theorem wU.snoc{l:List mv}{a:List (List D)}{p:mv}{f:List D}(g:wU l a)(b:EN p f):wU (l++[p]) (a++[f]):=by
 induction l generalizing a with
 |nil=>cases g;exact .cons b .nil
 |cons h l c=>cases g with|cons e d=>exact .cons e (c d)
abbrev TO(f:Nat)(n:List UInt8)(g d:Bool)(a:List UInt8)(c e:V)(b:List V):List V:=b3 f::cq n::ct g::ct d::cq a::c::e::b
def Vo(f:Nat)(n:List UInt8)(g e:Bool)(b:List UInt8)(d:V)(c:List V)(a:List (List D)):VS:=[.box (TO f n g e b (kV 4 7 a) d c),.box [.bp 0 0],.box [.bp 1 0],kO 7 a]
def Vp(l:List mv)(a:List (List D))(b:Nat):Prop:=wU l a/\a.length<=b
def V2:Nat->Bool:=fun a=>YU a 4||YU a 23||YU a 28
theorem mo:gK c1 [.int .i64 0,.str [],.str [],.cn,.cn]:=.mk .nil .nil
theorem PO{d:Nat->Nat}{g:Nat}{n:List UInt8}{i f:Bool}{c:List UInt8}{e:V}{a:List V}{j b:V}(h:e5 0 (e::a)=true)(k:j=gJ d b):some (cL.box (TO g n i f c j e a))=some (dH d (.box (TO g n i f c b e a))):=by
 subst k;show _=some (cL.box (b3 g::cq n::ct i::ct f::cq c::gJ d b::gU d (e::a)));rw[fj _ _ h]
theorem Bc{d:Nat->Nat}{h i:Nat}{g:Nat}{n:List UInt8}{j e:Bool}{b:List UInt8}{c:V}{a:List V}{k:List D}(f:e5 0 (c::a)=true)(l:d h=i):some (cL.box (TO g n j e b (.ms i 7 0 1 1) c a))=some (dH d (.box (TO g n j e b (kV h 7 ([]++[k])) c a))):=PO f (by subst l;rfl)
theorem w4{e:Nat->Nat}{k l:Nat}{j:Nat}{n:List UInt8}{m g:Bool}{b:List UInt8}{d:V}{a:List V}{f i:List D}{c:List (List D)}(h:e5 0 (d::a)=true)(o:e k=l):some (cL.box (TO j n m g b (.ms l 7 0 (c.length+1+1) (c.length+1+1)) d a))=some (dH e (.box (TO j n m g b (kV k 7 ((f::c)++[i])) d a))):=PO h (by subst o;rw[lW];exact km _ 7 f c i)
theorem uB{d i:Nat}{n:List UInt8}{j e:Bool}{b:List UInt8}{c:V}{a:List V}{g:V}(f:e5 0 (c::a)=true)(h:bd d g=true):fG d (.box (TO i n j e b g c a))=true:=by
 show(true&&(true&&(true&&(true&&(true&&(bd d g&&e5 d (c::a)))))))=true;rw[h,gl d _ f];rfl
theorem PP{e:Rd}(v:e.Wf)(L:Nat)(n:List UInt8)(Q M:Bool)(z:List UInt8){I:V}{q:List V}(f:e5 0 (I::q)=true)(l:List mv)(m:List (List D))(g:Nat)(P:Vp l m g)(h:g<e.ts.length)(J:dC->VS->Prop) 
  (s:∀N K i x,fq e l g=.ok N i->Vp N K i->g<i->i<e.ts.length->pz 4 (dq e i::x) (dq e i::Vo L n Q M z I q K)->J (.ret (.dV [])) (dq e i::x))
  (E:∀k y i x,fq e l g=.bad k y->4<=x.length+1->J (.eE (dt k y)) (dq e i::x)):b1 C b7 mQ (lX [2,3]) (dq e g::Vo L n Q M z I q m) J:=by
 have O:=v.len;obtain⟨u,c⟩:=P;refine b1.body V2 (fun _=>Z) ?_;intro R;refine b9 ?_;refine cl.loop ?_;refine b0 Z (b4 [.str [43]] Z ?_);refine cG e g (e.tok g) [43] (bZ h) om 0 Z (fun p=>?_) (fun p=>?_)
 ·have a:fq e l g=(hS 2 e (g+1)).map fun r=>l++[⟨r,0,c1⟩]:=by simp only[fq,sM,p,if_true]
  intro F;refine b0 Z (b4 [.int .i64 0] Z ?_);repeat refine a1 (by repeat' (first|exact tv|exact rfl|refine b0 rfl ?_|refine b4 [.int .i64 0] rfl ?_|refine YP ?_ ?_)) ?_
  refine l0 (k:=2) v dc (v.step h p) 0 ?_ (fun r B d=>?_) (fun k y B d=>?_)
  ·exact Z
  ·obtain⟨G,b⟩:=iM v dc (v.step h p) d;rw[d]at a;repeat refine a1 (by repeat' (first|exact tv|exact rfl|refine b0 rfl ?_|refine b4 [.int .i64 0] rfl ?_|refine YP ?_ ?_)) ?_
   intro H;rcases m with _|⟨w,o⟩
   ·refine a1 (by repeat' (first|exact tv|exact rfl|refine b0 rfl ?_|refine b4 [.int .i64 0] rfl ?_|refine YP ?_ ?_)) ?_;refine a1 Z (a1 ⟨YL Z,YL Z⟩ (a6 Z ?_));repeat refine a1 (by repeat' (first|exact tv|exact rfl|refine b0 rfl ?_|refine b4 [.int .i64 0] rfl ?_|refine YP ?_ ?_)) ?_
    refine s _ _ _ _ a ⟨u.snoc ⟨_,mo,Z⟩,by simp only[YO,YM,YQ]at c⊢;omega⟩ om b ⟨[0,1,2,3,5],rfl,dc,by show 4<=5;omega,rfl,rfl,Bc f rfl,uB f (ka 7 _ rfl),rfl,rfl,rfl,rfl,jy _ 7 [.str r,.int .i64 (YR 0),.int .i64 0,.str [],.str [],.cn,.cn],fO _ _ _,tv⟩
   ·have j:o.length+1<=4294967296:=by simp only[YM]at c;omega
    refine a1 (by repeat' (first|exact tv|exact rfl|refine b0 rfl ?_|refine b4 [.int .i64 0] rfl ?_|refine YP ?_ ?_)) ?_;refine a1 Z (a1 ⟨Z,Z,by simp,YN _,qS j (YN _) (YL rfl)⟩ (a6 rfl (a6 (jw _) ?_)));repeat refine a1 (by repeat' (first|exact tv|exact rfl|refine b0 rfl ?_|refine b4 [.int .i64 0] rfl ?_|refine YP ?_ ?_)) ?_
    refine s _ _ _ _ a ⟨u.snoc ⟨_,mo,Z⟩,by simp only[YO,YM,YQ]at c⊢;omega⟩ om b ⟨[0,1,2,3,5],rfl,dc,by show 4<=5;omega,rfl,rfl,w4 f rfl,uB f (ka 7 _ rfl),rfl,rfl,rfl,rfl,iB _ 7 w o [.str r,.int .i64 (YR 0),.int .i64 0,.str [],.str [],.cn,.cn],fO _ _ _,tv⟩
  ·exact E _ _ _ _ (by rw[a,d];rfl) (by show 4<=5;omega)
 ·refine cl.loop ?_;refine b0 Z (b4 [.str [45]] Z ?_);refine cG e g (e.tok g) [45] (bZ h) om 0 Z (fun t=>?_) (fun t=>?_)
  ·have a:fq e l g=(hS 2 e (g+1)).map fun r=>l++[⟨r,1,c1⟩]:=by simp only[fq,sM,p,t,YS,if_false,if_true]
   intro F;refine b0 Z (b4 [.int .i64 1] Z ?_);repeat refine a1 (by repeat' (first|exact tv|exact rfl|refine b0 rfl ?_|refine b4 [.int .i64 1] rfl ?_|refine YP ?_ ?_)) ?_
   refine l0 (k:=2) v dc (v.step h t) 0 ?_ (fun r B d=>?_) (fun k y B d=>?_)
   ·exact Z
   ·obtain⟨G,b⟩:=iM v dc (v.step h t) d;rw[d]at a;repeat refine a1 (by repeat' (first|exact tv|exact rfl|refine b0 rfl ?_|refine b4 [.int .i64 1] rfl ?_|refine YP ?_ ?_)) ?_
    intro H;rcases m with _|⟨w,o⟩
    ·refine a1 (by repeat' (first|exact tv|exact rfl|refine b0 rfl ?_|refine b4 [.int .i64 1] rfl ?_|refine YP ?_ ?_)) ?_;refine a1 Z (a1 ⟨YL Z,YL Z⟩ (a6 Z ?_));repeat refine a1 (by repeat' (first|exact tv|exact rfl|refine b0 rfl ?_|refine b4 [.int .i64 1] rfl ?_|refine YP ?_ ?_)) ?_
     refine s _ _ _ _ a ⟨u.snoc ⟨_,mo,Z⟩,by simp only[YO,YM,YQ]at c⊢;omega⟩ om b ⟨[0,1,2,3,5],rfl,dc,by show 4<=5;omega,rfl,rfl,Bc f rfl,uB f (ka 7 _ rfl),rfl,rfl,rfl,rfl,jy _ 7 [.str r,.int .i64 (YR 1),.int .i64 0,.str [],.str [],.cn,.cn],fO _ _ _,tv⟩
    ·have j:o.length+1<=4294967296:=by simp only[YM]at c;omega
     refine a1 (by repeat' (first|exact tv|exact rfl|refine b0 rfl ?_|refine b4 [.int .i64 1] rfl ?_|refine YP ?_ ?_)) ?_;refine a1 Z (a1 ⟨Z,Z,by simp,YN _,qS j (YN _) (YL rfl)⟩ (a6 rfl (a6 (jw _) ?_)));repeat refine a1 (by repeat' (first|exact tv|exact rfl|refine b0 rfl ?_|refine b4 [.int .i64 1] rfl ?_|refine YP ?_ ?_)) ?_
     refine s _ _ _ _ a ⟨u.snoc ⟨_,mo,Z⟩,by simp only[YO,YM,YQ]at c⊢;omega⟩ om b ⟨[0,1,2,3,5],rfl,dc,by show 4<=5;omega,rfl,rfl,w4 f rfl,uB f (ka 7 _ rfl),rfl,rfl,rfl,rfl,iB _ 7 w o [.str r,.int .i64 (YR 1),.int .i64 0,.str [],.str [],.cn,.cn],fO _ _ _,tv⟩
   ·exact E _ _ _ _ (by rw[a,d];rfl) (by show 4<=5;omega)
  ·refine cl.loop ?_;refine b0 Z (b4 [.str [61]] Z ?_);refine cG e g (e.tok g) [61] (bZ h) om 0 Z (fun A=>?_) (fun A=>?_)
   ·have a:fq e l g=(hS 2 e (g+1)).map fun r=>l++[⟨r,2,c1⟩]:=by simp only[fq,sM,p,t,A,YS,if_false,if_true]
    intro F;refine b0 Z (b4 [.int .i64 2] Z ?_);repeat refine a1 (by repeat' (first|exact tv|exact rfl|refine b0 rfl ?_|refine b4 [.int .i64 2] rfl ?_|refine YP ?_ ?_)) ?_
    refine l0 (k:=2) v dc (v.step h A) 0 ?_ (fun r B d=>?_) (fun k y B d=>?_)
    ·exact Z
    ·obtain⟨G,b⟩:=iM v dc (v.step h A) d;rw[d]at a;repeat refine a1 (by repeat' (first|exact tv|exact rfl|refine b0 rfl ?_|refine b4 [.int .i64 2] rfl ?_|refine YP ?_ ?_)) ?_
     intro H;rcases m with _|⟨w,o⟩
     ·refine a1 (by repeat' (first|exact tv|exact rfl|refine b0 rfl ?_|refine b4 [.int .i64 2] rfl ?_|refine YP ?_ ?_)) ?_;refine a1 Z (a1 ⟨YL Z,YL Z⟩ (a6 Z ?_));repeat refine a1 (by repeat' (first|exact tv|exact rfl|refine b0 rfl ?_|refine b4 [.int .i64 2] rfl ?_|refine YP ?_ ?_)) ?_
      refine s _ _ _ _ a ⟨u.snoc ⟨_,mo,Z⟩,by simp only[YO,YM,YQ]at c⊢;omega⟩ om b ⟨[0,1,2,3,5],rfl,dc,by show 4<=5;omega,rfl,rfl,Bc f rfl,uB f (ka 7 _ rfl),rfl,rfl,rfl,rfl,jy _ 7 [.str r,.int .i64 (YR 2),.int .i64 0,.str [],.str [],.cn,.cn],fO _ _ _,tv⟩
     ·have j:o.length+1<=4294967296:=by simp only[YM]at c;omega
      refine a1 (by repeat' (first|exact tv|exact rfl|refine b0 rfl ?_|refine b4 [.int .i64 2] rfl ?_|refine YP ?_ ?_)) ?_;refine a1 Z (a1 ⟨Z,Z,by simp,YN _,qS j (YN _) (YL rfl)⟩ (a6 rfl (a6 (jw _) ?_)));repeat refine a1 (by repeat' (first|exact tv|exact rfl|refine b0 rfl ?_|refine b4 [.int .i64 2] rfl ?_|refine YP ?_ ?_)) ?_
      refine s _ _ _ _ a ⟨u.snoc ⟨_,mo,Z⟩,by simp only[YO,YM,YQ]at c⊢;omega⟩ om b ⟨[0,1,2,3,5],rfl,dc,by show 4<=5;omega,rfl,rfl,w4 f rfl,uB f (ka 7 _ rfl),rfl,rfl,rfl,rfl,iB _ 7 w o [.str r,.int .i64 (YR 2),.int .i64 0,.str [],.str [],.cn,.cn],fO _ _ _,tv⟩
    ·exact E _ _ _ _ (by rw[a,d];rfl) (by show 4<=5;omega)
   ·refine cl.loop ?_;have a:fq e l g=.bad (e.tok g).off 3:=by simp only[fq,sM,p,t,A,YS,if_false]
    repeat refine b6 ?_
    refine ei e g (e.tok g) (bZ h) 0 ?_ ?_
    ·exact Z
    repeat refine b6 ?_
    refine eO _ (e.tok g).off 3 ?_;exact E _ _ _ _ a (by show 4<=5;omega)
def V3:Nat->Bool:=fun a=>YU a 17
theorem PQ{f:Rd}(S:f.Wf){r:Nat->PR Ty}{lo:Nat}(H:eo r f lo)(T:Nat)(n:List UInt8)(ab L:Bool)(o:List UInt8){E:V}{g:List V}(e:e5 0 (E::g)=true)(l:List mv)(i:List (List D))(x:Nat)(W:Vp l i x)(Y:lo<=x)(J:x<f.ts.length)(F:dC->VS->Prop) 
  (u:∀O K c k,fW r f l x=.ok O c->Vp O K c->x<c->c<f.ts.length->pz 4 (dq f c::k) (dq f c::Vo T n ab L o E g K)->F (.ret (.dV [])) (dq f c::k))
  (Q:∀h v c k,fW r f l x=.bad h v->4<=k.length+1->F (.eE (dt h v)) (dq f c::k)):b1 C b7 nZ (lX [2,3]) (dq f x::Vo T n ab L o E g i) F:=by
 have U:=S.len;obtain⟨w,a⟩:=W;refine b1.body V3 (fun _=>Z) ?_;refine l0 (k:=2) S dc J 0 Z (fun G p j=>?_) (fun h v p j=>?_)
 ·obtain⟨X,b⟩:=iM S dc J j;refine cG f p (f.tok p) [60,58] (bZ b) om 0 Z (fun q=>?_) (fun q=>?_)
  ·have z:=S.step b q;refine H.call (p+1) om z 0 _ _ Z (fun ad ae N y A=>?_) (fun h v N y=>?_)
   ·obtain⟨I,R,tn,M,P,rfl⟩:=A.di;obtain⟨aa,s⟩:=H.lt _ _ _ om z y;have d:fW r f l x=.ok (l++[⟨G,0,ad⟩]) N:=by simp only[fW,j,q,if_true,y,PR.map]
    intro ac;rcases i with _|⟨B,t⟩
    ·refine b8 ?_;refine a1 Z (a1 ⟨YL Z,YL Z⟩ (a6 Z ?_));repeat refine b6 ?_
     refine u _ _ _ _ d ⟨w.snoc ⟨_,A,Z⟩,by simp only[YO,YM,YQ]at a⊢;omega⟩ om s ⟨[0,1,2,3,6],rfl,dc,by show 4<=5;omega,rfl,rfl,Bc e rfl,uB e (ka 7 _ rfl),rfl,rfl,rfl,rfl,jy _ 7 [.str G,.int .i64 0,.int .i64 (YR I),.str R,.str tn,M,P],fO _ _ _,tv⟩
    ·have m:t.length+1<=4294967296:=by simp only[YM]at a;omega
     refine b8 ?_;refine a1 Z (a1 ⟨Z,Z,by simp,YN _,qS m (YN _) (YL rfl)⟩ (a6 rfl (a6 (jw _) ?_)));repeat refine b6 ?_
     refine u _ _ _ _ d ⟨w.snoc ⟨_,A,Z⟩,by simp only[YO,YM,YQ]at a⊢;omega⟩ om s ⟨[0,1,2,3,6],rfl,dc,by show 4<=5;omega,rfl,rfl,w4 e rfl,uB e (ka 7 _ rfl),rfl,rfl,rfl,rfl,iB _ 7 B t [.str G,.int .i64 0,.int .i64 (YR I),.str R,.str tn,M,P],fO _ _ _,tv⟩
   ·exact Q _ _ _ _ (by simp only[fW,j,q,if_true,y,PR.map]) (by show 4<=6;omega)
  ·have d:fW r f l x=.ok (l++[⟨G,0,c1⟩]) p:=by simp only[fW,j,q,YS,if_false]
   intro ac;rcases i with _|⟨B,t⟩
   ·refine b8 ?_;refine a1 Z (a1 ⟨YL Z,YL Z⟩ (a6 Z ?_));repeat refine b6 ?_
    refine u _ _ _ _ d ⟨w.snoc ⟨_,mo,Z⟩,by simp only[YO,YM,YQ]at a⊢;omega⟩ om b ⟨[0,1,2,3,6],rfl,dc,by show 4<=5;omega,rfl,rfl,Bc e rfl,uB e (ka 7 _ rfl),rfl,rfl,rfl,rfl,jy _ 7 [.str G,.int .i64 0,.int .i64 0,.str [],.str [],.cn,.cn],fO _ _ _,tv⟩
   ·have m:t.length+1<=4294967296:=by simp only[YM]at a;omega
    refine b8 ?_;refine a1 Z (a1 ⟨Z,Z,by simp,YN _,qS m (YN _) (YL rfl)⟩ (a6 rfl (a6 (jw _) ?_)));repeat refine b6 ?_
    refine u _ _ _ _ d ⟨w.snoc ⟨_,mo,Z⟩,by simp only[YO,YM,YQ]at a⊢;omega⟩ om b ⟨[0,1,2,3,6],rfl,dc,by show 4<=5;omega,rfl,rfl,w4 e rfl,uB e (ka 7 _ rfl),rfl,rfl,rfl,rfl,iB _ 7 B t [.str G,.int .i64 0,.int .i64 0,.str [],.str [],.cn,.cn],fO _ _ _,tv⟩
 ·exact Q _ _ _ _ (by simp only[fW,j]) (by show 4<=5;omega)
end Go.Proofs.YtpejealjkmhkgaaGreatDoor
namespace Go.VM
open Go.AM
section
variable{Φ:Fz} {ρ:Nat->Nat} {σ:VS} {st:St}
theorem Real.forget(g:Real Φ ρ σ st)(w:Nat):Real Φ ρ (σ.set w .gone) st:=by
 have b:∀(e:Nat) (c:cL),(σ.set w .gone:VS)[e]?=some c->live c=true->σ[e]?=some c:=by
  intro e c a h;rw[List.getElem?_set]at a;split at a
  ·split at a
   ·cases a;cases h
   ·cases a
  ·exact a
 refine⟨g.wf,g.wm,g.fz,g.Ma,g.qu,g.Mb,fun e m f v o q r a j=>g.H0 e m f v o q r (b e _ a Z) j,fun e c a h=>?_,fun e n c l a k i d o=>g.inj e n c l (b e _ a i) (b n _ k d) i d o,fun e m f v o q r p y a j u s t=>?_⟩
 ·rw[YT];exact g.obj e c (b e c a h) h
 ·obtain⟨x,z⟩:=g.dS e m f v o q r p y (b e _ a rfl) j u s t;exact⟨x,fun n l k d=>z n l (b n _ k d) d⟩
theorem cP.forget(c:Nat){g:Nat}{b:dC}{f:dC->VS->Prop}(h:cP g b (σ.set c .gone) f):cP g b σ f:=by
 refine⟨fun Φ ρ st d e=>?_⟩;have a:An Φ (σ.set c cL.gone).length b:=by rw[YT];exact e
 exact h.go Φ ρ st (d.forget c) a
end
end Go.VM
namespace Go.Proofs.YtpejealjkmhkgaaGreatDoor
open Go.AM Go.VM
def ph:List D:=[.int .i64 0,.str [],.str [],.cn,.cn]
def G7:List D:=[.int .i64 0,.str [],.str [],.str [],.int .i64 0,.cn,.cn,.cn]
theorem G8:gK c1 ph:=.mk .nil .nil
theorem TP:ly qa G7:=.mk .nil .nil .nil
def Vq(h:Nat)(n:List UInt8)(j e:Bool)(a:List UInt8)(c:D)(lo g f b:List D)(i d:List UInt8):List V:=(mG h n j e a c lo g f b i d).map V.d
abbrev XC(c b:Bool)(a:List UInt8):List V:=Vq 0 [] c b a .cn ph ph ph G7 [] []
def XD(g:Rd)(i:PR kA)(e:dC)(b d:cL):Prop:=match i with
 |.ok h c=>e=.ret (.dV [])/\b=dq g c/\∃f,rL h f/\d=.box (f.map V.d)
 |.bad a j=>e=.eE (dt a j)/\∃c,b=dq g c
def Vr(f:Rd)(e:PR kA)(d:dC)(c:VS):Prop:=∃b a,c=[b,a]/\cN d=true/\fG 0 b=true/\fG 0 a=true/\XD f e d b a
theorem G9{g:Rd}{f:Nat}{e:PR kA}{d:kA}{c:List D}{b:VS}(h:e=.ok d f)(a:rL d c):cP 2 (.ret (.dV [])) (dq g f:: .box (c.map V.d)::b) (Vr g e):=by
 subst h;exact cP.drop 2 Z (wJ Z (pc 2 c)) Z (cP.now Z ⟨_,_,Z,Z,Z,pc 0 c,Z,Z,c,a,Z⟩)
theorem jD{h:Rd}{g b i:Nat}{f:PR kA}{a:VS}(j:f=.bad b i)(d:1<=a.length):cP 2 (.eE (dt b i)) (dq h g::a) (Vr h f):=by
 subst j;obtain⟨c,a,rfl⟩:∃c e,a=c::e:=by cases a with
  |nil=>simp at d
  |cons c e=>exact⟨c,e,rfl⟩
 refine cP.forget 1 ?_;exact cP.drop 2 Z (wJ Z Z) Z (cP.now Z ⟨_,_,Z,Z,Z,Z,Z,g,Z⟩)
def XE:Nat->Bool:=fun a=>YU a 13||YU a 21
theorem sR{m:Rd}(i:m.Wf)(t e:Bool)(a:List UInt8){p:Nat}(n:p<m.ts.length):b1 C b7 xK [.bp 0 0,.bp 1 0] [dq m p,.box (XC t e a)] (Vr m (ie m t e a p)):=by
 have w:=i.len;refine cA XE (fun _=>Z) ?_;refine nB i n 0 Z (fun B A b=>?_) (fun h l A b=>?_)
 ·obtain⟨_,v⟩:=fB i n b;intro u;refine gM i [58,58] v u _ 0 ?_ (fun c g=>?_) (fun c z=>?_)
  ·exact Z
  ·refine(sQ i).call (A+1) g 0 ?_ (fun o s d=>?_) (fun h l s d=>?_)
   ·exact Z
   ·obtain⟨_,q⟩:=(sQ i).lt _ _ _ g d;intro y;refine gM i [97,115] q y _ 0 ?_ (fun f r=>?_) (fun f z=>?_)
    ·exact Z
    ·refine(sQ i).call (s+1) r 0 ?_ (fun k x j=>?_) (fun h l x j=>?_)
     ·exact Z
     ·exact G9 (c:=mG 2 k t e a .cn ph ph ph G7 B o) (d:=⟨2,k,t,e,a,[],c1,c1,c1,qa,B,o⟩) (by simp only[ie,b,dA,cu,c,if_true,d,f,j,PR.map]) ⟨_,_,_,_,_,.nil,G8,G8,G8,TP,rfl⟩
     ·exact jD (by simp only[ie,b,dA,cu,c,if_true,d,f,j,PR.map]) sm
    ·exact jD (by simp only[ie,b,dA,cu,c,if_true,d,f,if_false,YS,PR.map]) sm
   ·exact jD (by simp only[ie,b,dA,cu,c,if_true,d]) sm
  ·exact jD (by simp only[ie,b,dA,cu,c,if_false,YS]) sm
 ·exact jD (by simp only[ie,b]) sm
def PS:List V:=[cq [],cq [],.d .cn,.d .cn]++((ph++(ph++(G7++[D.str [],D.str []]))).map V.d)
def Rl:Tm:=[(2,.bp 2 0),(3,.bp 3 0)]
def Ha(j:Rd)(h:Nat)(n:List UInt8)(k d:Bool)(a:List UInt8)(lo f e b:List D)(i c:List UInt8)(g:Nat×List mv×D):VS:=[dq j g.1,.box (Vq h n k d a g.2.2 lo f e b i c),.box [.bp 0 0],.box [.bp 1 0]]
def XF:Nat->Bool:=fun a=>YU a 18||YU a 26||YU a 1000004
theorem PT{d:Type}{g:Rd}(u:g.Wf){step:d->Nat->PR d}{lo:Nat}(p:∀f b a c,lo<=b->b<g.ts.length->step f b=.ok a c->b<c/\c<g.ts.length):∀(i:Nat) (f:d) (b:Nat) (a:d) (c:Nat),lo<=b->b<g.ts.length->lA step g i f b=.ok a c->b<c/\c<g.ts.length:=by
 intro i;induction i with
 |zero=>intro f b a c _ _ e;cases e
 |succ i r=>
  intro f b a c m j e;rw[lA]at e;split at e
  ·cases e
  ·rename_i t l k;obtain⟨y,s⟩:=p f b t l m j k;split at e
   ·rename_i o;have:=u.step s o;obtain⟨w,v⟩:=r t _ a c om this e;exact⟨om,v⟩
   ·obtain⟨x,h,_⟩:=du e;have q:=cH _ _ _ h;have n:=c8 u _ _ _ s h;simp only[YM,YQ]at q;exact⟨om,n⟩
theorem sS{c:Rd}(J:c.Wf){h:Nat->PR Ty}{v:Nat->PR Ex}{p:Nat}(G:eo h c p)(aa:ld cR v c p)(g b:Bool)(a:List UInt8)(W:p<c.ts.length):b1 C b7 xJ [.bp 0 0,.bp 1 0] [dq c p,.box (XC g b a)] (Vr c (iX h v c g b a p)):=by
 have ag:=J.len;refine cA XF (fun _=>Z) ?_;repeat refine b6 ?_
 refine nB J W 0 ?_ (fun o m k=>?_) (fun l F m k=>?_)
 ·exact Z
 ·obtain⟨aE,L⟩:=fB J W k;repeat refine b6 ?_
  apply gh (T:=fun _=>Rl) (S:=Ha c 1 o g b a ph ph ph G7 [] []) (I:=fun q:Nat×List mv×D=>m<=q.1/\q.1<c.ts.length/\uA q.2.1 q.2.2/\hT (fW h c) c [] m=.ok q.2.1 q.1)
  ·intro K;refine pb c m (c.tok m) [91] (bZ L) 0 ?_ ?_
   ·exact Z
   apply aZ<;>intro N
   ·refine C7 J (fW h c) Vp (Vo 1 o g b a (b3 0) PS) [.box (Vq 1 o g b a .cn ph ph ph G7 [] []),.box [.bp 0 0],.box [.bp 1 0]] 4 nZ Z [2,3] (g0:=[]) (a0:=[]) L N ⟨.nil,YV _⟩ (fun aB ae m aC=>⟨aC.1,Nat.le_succ_of_le aC.2⟩) Z Z (fun ae=>by show 4<=5;omega) dc (fun aB ae d f aJ ah an av ai=>PQ J G 1 o g b a rfl aB ae d f om ah an av ai) (fun ad ab d u X aA i=>?_) (fun l F d aO u aL=>?_)
    ·have w:m<=d:=om;rcases ab with _|⟨R,s⟩
     ·have M:ad=[]:=List.eq_nil_of_length_eq_zero X.1.len.symm;subst M;exact cF (eW:=Rl) (ii:=Ha c 1 o g b a ph ph ph G7 [] [] (d,[],.cn)) (.pick 2 [0,1,2,3] ⟨Z,Z,tv⟩ Z Z Z Z Z dc ⟨Z,Z,Z,Z,Z,Z,Z,Z,tv⟩) (K (d,[],.cn) ⟨w,i,.nil,u⟩)
     ·refine pu 4 1 Rl (es:=7) (l:=R::s) rfl rfl (fZ _) ⟨rfl,rfl,tv⟩ ⟨tv,tv,tv⟩ (by repeat' (first|exact tv|exact fun _=>⟨rfl,by simp⟩|refine YP ?_ ?_)) (fun aG=>?_);exact cF (eW:=Rl) (ii:=Ha c 1 o g b a ph ph ph G7 [] [] (d,ad,.ps aG (0*7) 7 (s.length+1) (List.take (s.length+1) (List.drop 0 (R::s))))) (.pick 2 [0,1,2,3] ⟨Z,Z,tv⟩ Z Z Z Z Z dc ⟨Z,Z,Z,Z,Z,Z,Z,Z,tv⟩) (K (d,ad,_) ⟨w,i,by rw[eH _ _ sm];exact .ps X.1,u⟩)
    ·exact jD (by simp only[iX,k,u]) om
   ·refine cF (eW:=Rl) (ii:=Ha c 1 o g b a ph ph ph G7 [] [] (m,[],.cn)) (.same ⟨Z,Z,tv⟩ Z) (K (m,[],.cn) ⟨YN _,L,.nil,by rw[hT,if_neg (by rw[N];decide)]⟩)
  ·rintro⟨n,r,x⟩ ⟨Y,V,ac,T⟩;have aD:m<=n:=Y;have i:n<c.ts.length:=V;have S:uA r x:=ac;have w:hT (fW h c) c [] m=.ok r n:=T;clear Y V ac T;have e:iX h v c g b a p=match dA h c [58] n with
     |.bad aF g=>.bad aF g
     |.ok ay d=>(dA v c [61] d).map fun q=>⟨1,o,g,b,a,r,c1,c1,ay,q,[],[]⟩:=by
    simp only[iX,k,w];rfl
   intro al;refine gM J [58] i al _ 0 Z (fun f A=>?_) (fun f ak=>?_)
   ·repeat refine b6 ?_
    refine G.call (n+1) om A 0 _ _ ?_ (fun ay aK P j B=>?_) (fun l F P j=>?_)
    ·exact Z
    ·obtain⟨af,aj,tn,am,ar,rfl⟩:=B.di;obtain⟨az,H⟩:=G.lt _ _ _ om A j;repeat refine b6 ?_
     intro ax;refine gM J [61] H ax _ 0 ?_ (fun t Q=>?_) (fun t ak=>?_)
     ·exact Z
     ·repeat refine b6 ?_
      refine aa.call (P+1) om Q 0 _ _ ?_ (fun q aI ap I E=>?_) (fun l F ap I=>?_)
      ·exact Z
      ·obtain⟨ao,aM,aQ,aq,O,U,au,aw,rfl⟩:=E.eight;repeat refine b6 ?_
       exact G9 (c:=mG 1 o g b a x ph ph [.int .i64 (YR af),.str aj,.str tn,am,ar] [.int .i64 (YR ao),.str aM,.str aQ,.str aq,.int .i64 O,U,au,aw] [] []) (d:=⟨1,o,g,b,a,r,c1,c1,ay,q,[],[]⟩) (by rw[e];simp only[dA,cu,f,if_true,j,t,I,PR.map]) ⟨_,_,_,_,_,S,G8,G8,B,E,rfl⟩
      ·exact jD (by rw[e];simp only[dA,cu,f,if_true,j,t,I,PR.map]) sm
     ·exact jD (by rw[e];simp only[dA,cu,f,if_true,j,t,if_false,YS,PR.map]) sm
    ·exact jD (by rw[e];simp only[dA,cu,f,if_true,j]) sm
   ·exact jD (by rw[e];simp only[dA,cu,f,if_false,YS]) sm
 ·exact jD (by simp only[iX,k]) sm
def XG:Nat->Bool:=fun a=>YU a 1000005||YU a 1000010
def Rm:Tm:=[(1,.d .cn),(2,.d .cn),(3,.bp 0 0),(6,.bp 1 0)]
def oV(b es:Nat):Option (List (List D))->V
 |none=>.d .cn
 |some a=>.ms b es 0 a.length a.length
def oO(es:Nat):Option (List (List D))->cL
 |none=>.gone
 |some b=>.row es (b.map fun a=>a.map V.d)
def Oc(d:Nat)(c b:List UInt8)(a:Option (List (List D))×Option (List (List D))):VS:=[.box [b3 d,cq c,cq b,oV 2 5 a.1,oV 3 7 a.2],.box qO,oO 5 a.1,oO 7 a.2]
def Lb(a:List Ty):Option (List (List D))->Prop
 |none=>a=[]
 |some b=>eX a b/\b≠[]
def PU(a:List mT):Option (List (List D))->Prop
 |none=>a=[]
 |some b=>sF a b
theorem UK(a:List D)(b:List (List D)){c:Nat}(f:b.length+1<=4294967296)(d:c<=200):(0+(YX (fun e=>YX V.d e) (a::b)).length)*c<=eF/\0+(YX (fun e=>YX V.d e) (a::b)).length<=eF:=by
 simp only[YW,List.length_map,YM];unfold eF;constructor
 ·calc (b.length+1)*c<=4294967296*200:=Nat.mul_le_mul om d
   _<=_:=dc
 ·omega
theorem eX.set{l:List Ty}{a:List (List D)}(h:eX l a){i:Nat}(d:i<l.length){g:List D}(b:gK l[i] g):eX l (a.set i g):=by
 induction l generalizing a i with
 |nil=>simp at d
 |cons j l e=>
  cases h with
  |cons f c=>
   cases i with
   |zero=>exact .cons b c
   |succ i=>exact .cons f (e c (i:=i) (by simpa using d) b)
theorem sF.set{l:List mT}{a:List (List D)}(h:sF l a){i:Nat}(d:i<l.length){g:List D}(b:gK l[i].2.1 g):sF l (a.set i (.str l[i].1::g++[.bool l[i].2.2])):=by
 induction l generalizing a i with
 |nil=>simp at d
 |cons j l e=>
  obtain⟨k,m,n⟩:=j;cases h with
  |cons f c=>
   cases i with
   |zero=>exact .cons b c
   |succ i=>exact .cons f (e c (i:=i) (by simpa using d) b)
theorem vk{a:Nat->Nat}{h:Nat}{i d:List UInt8}{e c j b:V}(g:e=gJ a j)(f:c=gJ a b):some (cL.box [b3 h,cq i,cq d,e,c])=some (dH a (.box [b3 h,cq i,cq d,j,b])):=by
 subst g f;rfl
theorem og{a:Nat->Nat}{c d es n:Nat}{l:List (List D)}(e:a c=d)(b:n=l.length):V.ms d es 0 n n=gJ a (oV c es (some l)):=by
 subst e b;rfl
theorem Sq{a:Nat->Nat}{b es:Nat}(o:Option (List (List D)))(c:a b=b):oV b es o=gJ a (oV b es o):=by
 cases o with
 |none=>rfl
 |some d=>show V.ms _ _ _ _ _=V.ms _ _ _ _ _;rw[c]
theorem Lc{a:Nat->Nat}{es:Nat}(o:Option (List (List D))):some (oO es o)=some (dH a (oO es o)):=by
 cases o with
 |none=>rfl
 |some b=>exact congrArg some (sG a es b).symm
theorem Ld{a:Nat->Nat}{es:Nat}(l:List (List D))(c:Nat)(b:List D):some (cL.row es ((l.map fun b=>b.map V.d).set (0+c) (b.map V.d)))=some (dH a (oO es (some (l.set c b)))):=by
 show _=some (dH a (.row es _));rw[sG,YW,List.map_set]
theorem PV{a h:Nat}{g f:List UInt8}{d b:V}(c:bd a d=true)(e:bd a b=true):fG a (.box [b3 h,cq g,cq f,d,b])=true:=by
 show(true&&(true&&(true&&(bd a d&&(bd a b&&true)))))=true;rw[c,e];rfl
theorem Le{a b es:Nat}(o:Option (List (List D)))(c:Nat.blt b a=true):bd a (oV b es o)=true:=by
 cases o with
 |none=>rfl
 |some d=>exact c
theorem sT{a:Nat->Nat}{es:Nat}(l:List (List D)):some (cL.row es (List.take 0 (List.drop 0 [])++YX (fun b=>YX V.d b) l))=some (dH a (oO es (some l))):=by
 show _=some (dH a (.row es _));rw[sG];rfl
theorem pi(a es:Nat)(o:Option (List (List D))):fG a (oO es o)=true:=by
 cases o with
 |none=>rfl
 |some b=>exact ju a es b
theorem Hb(n:Nat)(ai:∀(t:Ty) (L:List D),cJ t<=n->gK t L->gu t->∀{σ:VS} {aI:dC->VS->Prop},(∀y,gK t y->aI (.ret (.agg (y.map V.d))) σ)->b1 C b7 jZ [.agg (L.map V.d),.d .cn,.d .cn] σ aI) 
  (t:Ty) (L:List D) (aK:cJ t<=n+1) (aP:n<4294967295) (aC:gK t L) (Y:gu t):b1 C b7 jZ [.agg (L.map V.d),.d .cn,.d .cn] [] fun ao X=>X=[]/\cN ao=true/\∃y,gK t y/\ao=.ret (.agg (y.map V.d)):=by
 cases aC with
 |mk aq aj=>
 rename_i l o g b a aE aF;have aJ:decide (YR l=9)=false:=by
  refine decide_eq_false fun E=>?_;have E:l=9:=by simp only[Int.ofNat_eq_natCast]at E;omega
  subst E;cases Y with
  |mk Y _=>
   cases Y with
   |base E=>omega
 have ac:=im (.mk l o g b a);have aD:=gN (eI (.mk l o g b a));have aH:(eI (.mk l o g b a)).length=b.length+a.length:=by simp[eI,gn]
 have ax:(aE=.cn/\b=[])∨∃K ay az m k,aE=.ps K ay 5 az (m::k)/\eX b (m::k)/\k.length+1=b.length:=by
  cases aq with
  |nil=>exact .inl ⟨rfl,rfl⟩
  |ps E p=>
   rename_i e;have:=E.len;cases e with
   |nil=>exact absurd rfl p
   |cons m k=>exact .inr ⟨_,_,_,m,k,rfl,E,this⟩
 have ab:(aF=.cn/\a=[])∨∃K ay az e,aF=.ps K ay 7 az e/\sF a e/\e.length=a.length:=by
  cases aj with
  |nil=>exact .inl ⟨rfl,rfl⟩
  |ps E=>exact .inr ⟨_,_,_,_,rfl,E,E.len⟩
 clear aq aj;refine cA XG (fun _=>Z) ?_;refine b9 ?_;refine cl.loop ?_;repeat refine dX ?_
 apply gh (T:=fun _=>Rm) (S:=Oc l o g) (I:=fun h:Option (List (List D))×Option (List (List D))=>Lb b h.1/\PU a h.2)
 ·intro P;repeat refine b6 ?_
  rcases ax with⟨rfl,f⟩|⟨K,ay,az,m,k,rfl,f,aG⟩
  ·refine b9 ?_;repeat refine b6 ?_
   rcases ab with⟨rfl,i⟩|⟨aa,aB,aA,e,rfl,i,Q⟩
   ·refine b9 ?_;repeat refine b6 ?_
    exact cl.gone (cl.gone (cF (eW:=Rm) (ii:=Oc l o g (none,none)) (.same ⟨Z,Z,Z,Z,tv⟩ Z) (P _ ⟨f,i⟩)))
   ·rcases e with _|⟨f0,F⟩
    ·refine b9 ?_;refine a1 Z (a1 ⟨Z,Z,YN _,YN _,⟨YV _,YV _⟩⟩ ?_);repeat refine b6 ?_
     exact cl.gone (cF (eW:=Rm) (ii:=Oc l o g (none,(some []))) (.pick 0 [0,1,3,2] ⟨Z,Z,Z,Z,tv⟩ Z Z Z Z Z dc ⟨vk Z (og Z Z),Z,Z,Z,Z,pi _ _ _,Z,pi _ _ _,tv⟩) (P (none,(some [])) ⟨f,i⟩))
    ·simp only[YM]at Q;refine b9 ?_;refine a1 Z (a1 ⟨Z,Z,YN _,YN _,UK f0 F om (YL Z)⟩ ?_);refine a6 Z (a6 Z ?_);repeat refine b6 ?_
     exact cl.gone (cF (eW:=Rm) (ii:=Oc l o g (none,(some (f0::F)))) (.pick 0 [0,1,4,3] ⟨Z,Z,Z,Z,tv⟩ Z Z Z Z Z dc ⟨vk Z (og Z sm),Z,Z,Z,Z,pi _ _ _,(sT (f0::F)),pi _ _ _,tv⟩) (P (none,(some (f0::F))) ⟨f,i⟩))
  ·refine b9 ?_;refine a1 Z (a1 ⟨Z,Z,YN _,YN _,UK m k om (YL Z)⟩ ?_);refine a6 Z (a6 Z ?_);repeat refine b6 ?_
   rcases ab with⟨rfl,i⟩|⟨aa,aB,aA,e,rfl,i,Q⟩
   ·refine b9 ?_;repeat refine b6 ?_
    exact cl.gone (cF (eW:=Rm) (ii:=Oc l o g ((some (m::k)),none)) (.pick 0 [0,1,3,4] ⟨Z,Z,Z,Z,tv⟩ Z Z Z Z Z dc ⟨vk (og Z sm) Z,Z,Z,Z,(sT (m::k)),pi _ _ _,Z,pi _ _ _,tv⟩) (P ((some (m::k)),none) ⟨⟨f,by simp⟩,i⟩))
   ·rcases e with _|⟨f0,F⟩
    ·refine b9 ?_;refine a1 Z (a1 ⟨Z,Z,YN _,YN _,⟨YV _,YV _⟩⟩ ?_);repeat refine b6 ?_
     exact id (cF (eW:=Rm) (ii:=Oc l o g ((some (m::k)),(some []))) (.pick 0 [0,1,3,4] ⟨Z,Z,Z,Z,tv⟩ Z Z Z Z Z dc ⟨vk (og Z sm) (og Z Z),Z,Z,Z,(sT (m::k)),pi _ _ _,Z,pi _ _ _,tv⟩) (P ((some (m::k)),(some [])) ⟨⟨f,by simp⟩,i⟩))
    ·simp only[YM]at Q;refine b9 ?_;refine a1 Z (a1 ⟨Z,Z,YN _,YN _,UK f0 F om (YL Z)⟩ ?_);refine a6 Z (a6 Z ?_);repeat refine b6 ?_
     exact id (cF (eW:=Rm) (ii:=Oc l o g ((some (m::k)),(some (f0::F)))) (.pick 0 [0,1,3,5] ⟨Z,Z,Z,Z,tv⟩ Z Z Z Z Z dc ⟨vk (og Z sm) (og Z sm),Z,Z,Z,(sT (m::k)),pi _ _ _,(sT (f0::F)),pi _ _ _,tv⟩) (P ((some (m::k)),(some (f0::F))) ⟨⟨f,by simp⟩,i⟩))
 ·rintro⟨B,r⟩ ⟨f,i⟩;have f:Lb b B:=f;have i:PU a r:=i;have ae:∀aL∈eI (.mk l o g b a),gu aL:=by cases Y with|mk _ E=>exact E
  have M:eI (.mk l o g b a)=b++gn a:=rfl;apply gh (T:=fun _=>Rm) (S:=Oc l o g) (I:=fun h:Option (List (List D))×Option (List (List D))=>Lb b h.1/\PU a h.2)
  ·intro ad;rcases B with _|c
   ·refine cl.loop ?_;exact cF (eW:=Rm) (ii:=Oc l o g (none,r)) (.same ⟨Z,Z,Z,Z,tv⟩ Z) (ad (none,r) ⟨f,i⟩)
   ·obtain⟨f,p⟩:=f;refine cl.less (eW:=[(1,.d .cn),(2,.d .cn),(3,.bp 0 0),(6,.bp 1 0),(43,.ms 2 5 0 c.length c.length),(44,b3 c.length),(45,b3 0)]) ⟨Z,Z,Z,Z,Z,Z,Z,tv⟩ ?_;refine cl.iter (fun h:Nat×List (List D)=>[(1,.d .cn),(2,.d .cn),(3,.bp 0 0),(6,.bp 1 0),(43,.ms 2 5 0 h.2.length h.2.length),(44,b3 h.2.length),(45,b3 h.1)]) (fun h=>Oc l o g (some h.2,r)) (fun h=>b.length-h.1) (fun h=>h.1<=b.length/\eX b h.2/\h.2≠[]) ?_ (0,c) ⟨YV _,f,p⟩;rintro⟨j,e⟩ ⟨W,f,p⟩;have W:j<=b.length:=W;have f:eX b e:=f;have p:e≠[]:=p;have T:=f.len;apply aZ<;>intro E
    ·have G:j<b.length:=T▸fF E;obtain⟨L,ag,N⟩:=f.get G;have u:b[j]∈b:=List.getElem_mem G;have R:cJ b[j]<=n:=by have:=iC u;rw[M,jC]at ac;omega
     have S:gu b[j]:=ae _ (by rw[M];exact List.mem_append_left _ u);obtain⟨av,ap,an,am,f1,rfl⟩:=N.di;have J:nth (e.map fun L=>L.map V.d) (0+j)=some (A7 av ap an am f1):=by rw[YW,cv,List.getElem?_map,ag];rfl
     have I:j<e.length:=om;refine b0 Z ?_;refine a1 I ?_;refine b4 _ J ?_;repeat refine b6 ?_
     refine ai b[j] [.int .i64 (YR av),.str ap,.str an,am,f1] R N S (fun y H=>?_);obtain⟨w,A,x,z,f2,rfl⟩:=H.di;repeat refine b6 ?_
     refine b0 Z ?_;refine a1 I ?_;repeat refine b8 ?_
     refine b4 _ J ?_;have af:nth ((e.map fun L=>L.map V.d).set (0+j) (A7 w A x z f2)) (0+j)=some (A7 w A x z f2):=by rw[cv,YZ (by simp;omega)]
     repeat refine b8 ?_
     refine⟨(j+1,e.set j [.int .i64 (YR w),.str A,.str x,z,f2]),⟨G,f.set G H,by simp[p]⟩,by show b.length-(j+1)<b.length-j;omega,.pick 0 [0,1,2,3] ⟨rfl,rfl,rfl,rfl,congrArg some (og (l:=e.set j _) rfl YT.symm),int_eq (by rw[YT]),int_eq (cp om),tv⟩ rfl rfl rfl rfl rfl dc ⟨vk (og rfl YT.symm) (Sq r rfl),PV (Le _ rfl) (Le _ rfl),rfl,rfl,Ld e j [.int .i64 (YR w),.str A,.str x,z,f2],pi _ _ _,Lc r,pi _ _ _,tv⟩,rfl,rfl⟩
    ·exact cF (eW:=Rm) (ii:=Oc l o g (some e,r)) (.same ⟨Z,Z,Z,Z,tv⟩ Z) (ad (some e,r) ⟨⟨f,p⟩,i⟩)
  ·rintro⟨B,r⟩ ⟨f,i⟩;have f:Lb b B:=f;have i:PU a r:=i;have U:∀v,PU a v->cP 0 (.ret (.agg [b3 l,cq o,cq g,oV 2 5 B,oV 3 7 v])) [.box [b3 l,cq o,cq g,oV 2 5 B,oV 3 7 v],.box [b3 l,cq o,cq g,oV 2 5 B,oV 3 7 v],oO 5 B,oO 7 v] fun ao X=>X=[]/\cN ao=true/\∃y,gK (.mk l o g b a) y/\ao=.ret (.agg (y.map V.d)):=by
    intro v q;rcases B with _|c<;>rcases v with _|d
    ·have f:b=[]:=f;have q:a=[]:=q;subst f q;exact a7 0 ⟨Z,Z,[.int .i64 (YR l),.str o,.str g,.cn,.cn],.mk .nil .nil,Z⟩
    ·have f:b=[]:=f;subst f;refine cP.freeze 3 (es:=7) (l:=d) rfl (fZ d) (by repeat' (first|exact tv|exact fun _=>⟨rfl,by simp⟩|refine YP ?_ ?_)) (fun K=>?_);rw[show uZ 3 K d (.ret (.agg [b3 l,cq o,cq g,oV 2 5 none,oV 3 7 (some d)]))=.ret (.agg (([.int .i64 (YR l),.str o,.str g,.cn,.ps K (0*7) 7 d.length ((d.drop 0).take d.length)]:List D).map V.d))from rfl,eH _ _ rfl];exact a7 0 ⟨Z,Z,_,.mk .nil (.ps q),Z⟩
    ·have q:a=[]:=q;subst q;refine cP.freeze 2 (es:=5) (l:=c) rfl (fZ c) (by repeat' (first|exact tv|exact fun _=>⟨rfl,by simp⟩|refine YP ?_ ?_)) (fun K=>?_);rw[show uZ 2 K c (.ret (.agg [b3 l,cq o,cq g,oV 2 5 (some c),oV 3 7 none]))=.ret (.agg (([.int .i64 (YR l),.str o,.str g,.ps K (0*5) 5 c.length ((c.drop 0).take c.length),.cn]:List D).map V.d))from rfl,eH _ _ rfl];exact a7 0 ⟨Z,Z,_,.mk (.ps f.1 f.2) .nil,Z⟩
    ·refine cP.freeze 2 (es:=5) (l:=c) rfl (fZ c) (by repeat' (first|exact tv|exact fun _=>⟨rfl,by simp⟩|exact fun E=>absurd (show(3:Nat)=2 from E) dc|exact fun E=>absurd (show(2:Nat)=3 from E) dc|refine YP ?_ ?_)) (fun K=>?_);rw[show uZ 2 K c (.ret (.agg [b3 l,cq o,cq g,oV 2 5 (some c),oV 3 7 (some d)]))=.ret (.agg [b3 l,cq o,cq g,.d (.ps K (0*5) 5 c.length ((c.drop 0).take c.length)),.ms 3 7 0 d.length d.length])from rfl,eH _ _ rfl];refine cP.freeze 3 (es:=7) (l:=d) rfl (fZ d) (by repeat' (first|exact tv|exact fun _=>⟨rfl,by simp⟩|refine YP ?_ ?_)) (fun aa=>?_);rw[show uZ 3 aa d (.ret (.agg [b3 l,cq o,cq g,.d (.ps K (0*5) 5 c.length c),.ms 3 7 0 d.length d.length]))=.ret (.agg (([.int .i64 (YR l),.str o,.str g,.ps K (0*5) 5 c.length c,.ps aa (0*7) 7 d.length ((d.drop 0).take d.length)]:List D).map V.d))from rfl,eH _ _ rfl];exact a7 0 ⟨Z,Z,_,.mk (.ps f.1 f.2) (.ps q),Z⟩
   rcases B with _|c;all_goals
    rcases r with _|d
    ·refine cl.loop ?_;exact U none i
    ·refine cl.less (eW:=[(1,.d .cn),(2,.d .cn),(3,.bp 0 0),(6,.bp 1 0),(60,.ms 3 7 0 d.length d.length),(61,b3 d.length),(62,b3 0)]) ⟨Z,Z,Z,Z,Z,Z,Z,tv⟩ ?_;refine cl.iter (fun h:Nat×List (List D)=>[(1,.d .cn),(2,.d .cn),(3,.bp 0 0),(6,.bp 1 0),(60,.ms 3 7 0 h.2.length h.2.length),(61,b3 h.2.length),(62,b3 h.1)]) (fun h=>Oc l o g (_,some h.2)) (fun h=>a.length-h.1) (fun h=>h.1<=a.length/\sF a h.2) ?_ (0,d) ⟨YV _,i⟩;rintro⟨j,e⟩ ⟨W,O⟩;have W:j<=a.length:=W;have O:sF a e:=O;have T:=O.len;apply aZ<;>intro E
     ·have G:j<a.length:=T▸fF E;obtain⟨h,ag,ak,al,N⟩:=O.get G;have u:a[j].2.1∈gn a:=List.mem_map.2 ⟨_,List.getElem_mem G,rfl⟩;have R:cJ a[j].2.1<=n:=by have:=iC u;rw[M,jC]at ac;omega
      have S:gu a[j].2.1:=ae _ (by rw[M];exact List.mem_append_right _ u);have J:nth (e.map fun L=>L.map V.d) (0+j)=some [cq h.n,b3 h.k,cq h.m,cq h.nm,.d h.a,.d h.f,ct h.o]:=by rw[YW,cv,List.getElem?_map,ag];rfl
      have I:j<e.length:=om;refine b0 Z ?_;refine a1 I ?_;refine b4 _ J ?_;repeat refine b6 ?_
      refine ai a[j].2.1 h.ty R N S (fun y H=>?_);obtain⟨w,A,x,z,f2,rfl⟩:=H.di;repeat refine b8 ?_
      refine b0 Z ?_;refine a1 I ?_;repeat refine b8 ?_
      refine b4 _ J ?_;have af:nth ((e.map fun L=>L.map V.d).set (0+j) [cq h.n,b3 w,cq A,cq x,.d z,.d f2,ct h.o]) (0+j)=some [cq h.n,b3 w,cq A,cq x,.d z,.d f2,ct h.o]:=by rw[cv,YZ (by simp;omega)]
      repeat refine b8 ?_
      have aw:sF a (e.set j [.str h.n,.int .i64 (YR w),.str A,.str x,z,f2,.bool h.o]):=by
       have:=O.set G H;rw[ak,al]at this;exact this
      refine⟨(j+1,e.set j [.str h.n,.int .i64 (YR w),.str A,.str x,z,f2,.bool h.o]),⟨G,aw⟩,by show a.length-(j+1)<a.length-j;omega,.pick 0 [0,1,2,3] ⟨rfl,rfl,rfl,rfl,congrArg some (og (l:=e.set j _) rfl YT.symm),int_eq (by rw[YT]),int_eq (cp om),tv⟩ rfl rfl rfl rfl rfl dc ⟨vk rfl (og rfl YT.symm),PV (Le _ rfl) (Le _ rfl),rfl,rfl,Lc _,pi _ _ _,Ld e j [.str h.n,.int .i64 (YR w),.str A,.str x,z,f2,.bool h.o],pi _ _ _,tv⟩,rfl,rfl⟩
     ·exact U (some e) O
theorem C8:∀(f:Nat),f<4294967296->∀(b:Ty) (d:List D),cJ b<=f->gK b d->gu b->∀{σ:VS} {h:dC->VS->Prop},(∀a,gK b a->h (.ret (.agg (a.map V.d))) σ)->b1 C b7 jZ [.agg (d.map V.d),.d .cn,.d .cn] σ h:=by
 intro f;induction f with
 |zero=>intro _ b d g;have:=lY b;omega
 |succ f l=>
  intro o b d i c e σ h k;have j:=Hb f (fun b d g c e=>l om b d g c e) b d i om c e;obtain⟨s,t,n,q,r,rfl⟩:=c.di;exact b1.closed (P:=fun m=>∃a,gK b a/\m=.ret (.agg (a.map V.d))) j rfl (fun m ⟨a,g,p⟩=>by rw[p];exact k a g)
end Go.Proofs.YtpejealjkmhkgaaGreatDoor
