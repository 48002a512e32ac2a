/- Part of the proof. -/
import Derived.Test.YtpejealjkmhkgaaGreatDoorKBh
set_option linter.all false
set_option maxHeartbeats 16000000
set_option maxRecDepth 100000
open Nat renaming le_of_ble_eq_true->abK,le_refl->aet,zero_le->aeQ,beq->aeR,zero_add->aeS
open List renaming length_cons->abL,length_append->aeu,length_nil->aeN,length_set->aeP,map->aeT,getElem?_set_self->aeU
open And renaming intro->aev
open Int renaming ofNat->aeM
open Bool renaming false_eq_true->aeO
namespace Go.Proofs.YtpejealjkmhkgaaGreatDoor
open Go.AM Go.VM
theorem vb.len{l:List mM}{els:List cH}(h:vb l els):els.length=l.length:=by
 exact RZ
theorem vb.snoc{l:List mM}{els:List cH}{p:mM}{a:cH}(h:vb l els)(hp:HF p a):vb (l++[p]) (els++[a]):=by
 exact aam
abbrev ZT(f:Nat)(n:cq)(g d:Bool)(a:cq)(c e:V)(b:List V):List V:=bW f::cn n::bX g::bX d::cn a::c::e::b
def tdT(f:Nat)(n:cq)(g e:Bool)(b:cq)(d:V)(c:List V)(a:List cH):VS:=[.box (ZT f n g e b (kV 4 7 a) d c),.box [.bp 0 0],.box [.bp 1 0],kO 7 a]
def tdI(l:List mM)(a:List cH)(b:Nat):Prop:=vb l a/\a.length<=b
def acV:Nat->Bool:=fun a=>aeR a 4||aeR a 23||aeR a 28
theorem oq:eZ cV [.int .i64 0,.str [],.str [],.ci,.ci]:=.mk .nil .nil
theorem T1{d:Nat->Nat}{g:Nat}{n:cq}{i f:Bool}{c:cq}{e:V}{a:List V}{j b:V}(h:fu 0 (e::a)=true)(k:j=gW d b):some (cN.box (ZT g n i f c j e a))=some (dF d (.box (ZT g n i f c b e a))):=by
 subst k;show _=some (cN.box (bW g::cn n::bX i::bX f::cn c::gW d b::hU d (e::a)));rw[fL _ _ h]
theorem DA{d:Nat->Nat}{h i:Nat}{g:Nat}{n:cq}{j e:Bool}{b:cq}{c:V}{a:List V}{k:cH}(f:fu 0 (c::a)=true)(l:d h=i):some (cN.box (ZT g n j e b (.ms i 7 0 1 1) c a))=some (dF d (.box (ZT g n j e b (kV h 7 ([]++[k])) c a))):=T1 f (by subst l;rfl)
theorem zr{e:Nat->Nat}{k l:Nat}{j:Nat}{n:cq}{m g:Bool}{b:cq}{d:V}{a:List V}{f i:cH}{c:List cH}(h:fu 0 (d::a)=true)(o:e k=l):some (cN.box (ZT j n m g b (.ms l 7 0 (c.length+1+1) (c.length+1+1)) d a))=some (dF e (.box (ZT j n m g b (kV k 7 ((f::c)++[i])) d a))):=T1 h (by subst o;rw[nB];exact li _ 7 f c i)
theorem wZ{d i:Nat}{n:cq}{j e:Bool}{b:cq}{c:V}{a:List V}{g:V}(f:fu 0 (c::a)=true)(h:bd d g=true):fW d (.box (ZT i n j e b g c a))=true:=by
 show(true&&(true&&(true&&(true&&(true&&(bd d g&&fu d (c::a)))))))=true;rw[h,gx d _ f];rfl
theorem T2{c:Rd}(t:c.Wf)(G:Nat)(n:cq)(L H:Bool)(x:cq){D:V}{o:List V}(d:fu 0 (D::o)=true)(l:List mM)(j:List cH)(e:Nat)(K:tdI l j e)(f:e<c.ts.length)(E:cO->VS->Prop) 
  (q:∀I F g v,gG c l e=.ok I g->tdI I F g->e<g->g<c.ts.length->rr 4 (dp c g::v) (dp c g::tdT G n L H x D o F)->E (.ret (.dS [])) (dp c g::v))
  (k2:∀i w g v,gG c l e=.bad i w->4<=v.length+1->E (.eH (dt i w)) (dp c g::v)):bV C ca oQ (nC [2,3]) (dp c e::tdT G n L H x D o j) E:=by
 have J:=t.len;obtain⟨s,b⟩:=K;refine bV.body acV (fun _=>Z) ?_;intro M;refine cj ?_;refine cd.loop ?_;refine bZ Z (cc [.str [43]] Z ?_);refine cI c e (c.tok e) [43] (bY f) om 0 Z (fun m=>?_) (fun m=>?_)
 ·have xS:gG c l e=(jY 2 c (e+1)).map fun p=>l++[⟨p,0,cV⟩]:=by simp only[gG,xJ,m,if_true]
  intro z;refine bZ Z (cc [.int .i64 0] Z ?_);repeat refine a6 (by repeat' (first|exact tv|exact rfl|refine bZ rfl ?_|refine cc [.int .i64 0] rfl ?_|refine aev ?_ ?_)) ?_
  refine nG (k:=2) t dc (t.step f m) 0 ?_ (fun p q2 e2=>?_) (fun i w q2 e2=>?_)
  ·exact Z
  ·obtain⟨A,a⟩:=jG t dc (t.step f m) e2;rw[e2]at xS;repeat refine a6 (by repeat' (first|exact tv|exact rfl|refine bZ rfl ?_|refine cc [.int .i64 0] rfl ?_|refine aev ?_ ?_)) ?_
   intro B;rcases j with _|⟨u,k⟩
   ·refine a6 (by repeat' (first|exact tv|exact rfl|refine bZ rfl ?_|refine cc [.int .i64 0] rfl ?_|refine aev ?_ ?_)) ?_;refine a6 Z (a6 ⟨abK Z,abK Z⟩ (a7 Z ?_));repeat refine a6 (by repeat' (first|exact tv|exact rfl|refine bZ rfl ?_|refine cc [.int .i64 0] rfl ?_|refine aev ?_ ?_)) ?_
    refine q _ _ _ _ xS ⟨s.snoc ⟨_,oq,Z⟩,by simp only[aeu,abL,aeN]at b⊢;omega⟩ om a ⟨[0,1,2,3,5],Z,dc,by show 4<=5;omega,Z,Z,DA d Z,wZ d (kZ 7 _ Z),Z,Z,Z,Z,lj _ 7 [.str p,.int .i64 (aeM 0),.int .i64 0,.str [],.str [],.ci,.ci],gH _ _ _,tv⟩
   ·have h:k.length+1<=4294967296:=by simp only[abL]at b;omega
    refine a6 (by repeat' (first|exact tv|exact rfl|refine bZ rfl ?_|refine cc [.int .i64 0] rfl ?_|refine aev ?_ ?_)) ?_;refine a6 Z (a6 ⟨Z,Z,by simp,aet _,rB h (aet _) (abK Z)⟩ (a7 Z (a7 (lk _) ?_)));repeat refine a6 (by repeat' (first|exact tv|exact rfl|refine bZ rfl ?_|refine cc [.int .i64 0] rfl ?_|refine aev ?_ ?_)) ?_
    refine q _ _ _ _ xS ⟨s.snoc ⟨_,oq,Z⟩,by simp only[aeu,abL,aeN]at b⊢;omega⟩ om a ⟨[0,1,2,3,5],Z,dc,by show 4<=5;omega,Z,Z,zr d Z,wZ d (kZ 7 _ Z),Z,Z,Z,Z,jQ _ 7 u k [.str p,.int .i64 (aeM 0),.int .i64 0,.str [],.str [],.ci,.ci],gH _ _ _,tv⟩
  ·exact X0
 ·refine cd.loop ?_;refine bZ Z (cc [.str [45]] Z ?_);refine cI c e (c.tok e) [45] (bY f) om 0 Z (fun r=>?_) (fun r=>?_)
  ·have xS:gG c l e=(jY 2 c (e+1)).map fun p=>l++[⟨p,1,cV⟩]:=by simp only[gG,xJ,m,r,aeO,if_false,if_true]
   intro z;refine bZ Z (cc [.int .i64 1] Z ?_);repeat refine a6 (by repeat' (first|exact tv|exact rfl|refine bZ rfl ?_|refine cc [.int .i64 1] rfl ?_|refine aev ?_ ?_)) ?_
   refine nG (k:=2) t dc (t.step f r) 0 ?_ (fun p q2 e2=>?_) (fun i w q2 e2=>?_)
   ·exact Z
   ·obtain⟨A,a⟩:=jG t dc (t.step f r) e2;rw[e2]at xS;repeat refine a6 (by repeat' (first|exact tv|exact rfl|refine bZ rfl ?_|refine cc [.int .i64 1] rfl ?_|refine aev ?_ ?_)) ?_
    intro B;rcases j with _|⟨u,k⟩
    ·refine a6 (by repeat' (first|exact tv|exact rfl|refine bZ rfl ?_|refine cc [.int .i64 1] rfl ?_|refine aev ?_ ?_)) ?_;refine a6 Z (a6 ⟨abK Z,abK Z⟩ (a7 Z ?_));repeat refine a6 (by repeat' (first|exact tv|exact rfl|refine bZ rfl ?_|refine cc [.int .i64 1] rfl ?_|refine aev ?_ ?_)) ?_
     refine q _ _ _ _ xS ⟨s.snoc ⟨_,oq,Z⟩,by simp only[aeu,abL,aeN]at b⊢;omega⟩ om a ⟨[0,1,2,3,5],Z,dc,by show 4<=5;omega,Z,Z,DA d Z,wZ d (kZ 7 _ Z),Z,Z,Z,Z,lj _ 7 [.str p,.int .i64 (aeM 1),.int .i64 0,.str [],.str [],.ci,.ci],gH _ _ _,tv⟩
    ·have h:k.length+1<=4294967296:=by simp only[abL]at b;omega
     refine a6 (by repeat' (first|exact tv|exact rfl|refine bZ rfl ?_|refine cc [.int .i64 1] rfl ?_|refine aev ?_ ?_)) ?_;refine a6 Z (a6 ⟨Z,Z,by simp,aet _,rB h (aet _) (abK Z)⟩ (a7 Z (a7 (lk _) ?_)));repeat refine a6 (by repeat' (first|exact tv|exact rfl|refine bZ rfl ?_|refine cc [.int .i64 1] rfl ?_|refine aev ?_ ?_)) ?_
     refine q _ _ _ _ xS ⟨s.snoc ⟨_,oq,Z⟩,by simp only[aeu,abL,aeN]at b⊢;omega⟩ om a ⟨[0,1,2,3,5],Z,dc,by show 4<=5;omega,Z,Z,zr d Z,wZ d (kZ 7 _ Z),Z,Z,Z,Z,jQ _ 7 u k [.str p,.int .i64 (aeM 1),.int .i64 0,.str [],.str [],.ci,.ci],gH _ _ _,tv⟩
   ·exact X0
  ·refine cd.loop ?_;refine bZ Z (cc [.str [61]] Z ?_);refine cI c e (c.tok e) [61] (bY f) om 0 Z (fun y=>?_) (fun y=>?_)
   ·have xS:gG c l e=(jY 2 c (e+1)).map fun p=>l++[⟨p,2,cV⟩]:=by simp only[gG,xJ,m,r,y,aeO,if_false,if_true]
    intro z;refine bZ Z (cc [.int .i64 2] Z ?_);repeat refine a6 (by repeat' (first|exact tv|exact rfl|refine bZ rfl ?_|refine cc [.int .i64 2] rfl ?_|refine aev ?_ ?_)) ?_
    refine nG (k:=2) t dc (t.step f y) 0 ?_ (fun p q2 e2=>?_) (fun i w q2 e2=>?_)
    ·exact Z
    ·obtain⟨A,a⟩:=jG t dc (t.step f y) e2;rw[e2]at xS;repeat refine a6 (by repeat' (first|exact tv|exact rfl|refine bZ rfl ?_|refine cc [.int .i64 2] rfl ?_|refine aev ?_ ?_)) ?_
     intro B;rcases j with _|⟨u,k⟩
     ·refine a6 (by repeat' (first|exact tv|exact rfl|refine bZ rfl ?_|refine cc [.int .i64 2] rfl ?_|refine aev ?_ ?_)) ?_;refine a6 Z (a6 ⟨abK Z,abK Z⟩ (a7 Z ?_));repeat refine a6 (by repeat' (first|exact tv|exact rfl|refine bZ rfl ?_|refine cc [.int .i64 2] rfl ?_|refine aev ?_ ?_)) ?_
      refine q _ _ _ _ xS ⟨s.snoc ⟨_,oq,Z⟩,by simp only[aeu,abL,aeN]at b⊢;omega⟩ om a ⟨[0,1,2,3,5],Z,dc,by show 4<=5;omega,Z,Z,DA d Z,wZ d (kZ 7 _ Z),Z,Z,Z,Z,lj _ 7 [.str p,.int .i64 (aeM 2),.int .i64 0,.str [],.str [],.ci,.ci],gH _ _ _,tv⟩
     ·have h:k.length+1<=4294967296:=by simp only[abL]at b;omega
      refine a6 (by repeat' (first|exact tv|exact rfl|refine bZ rfl ?_|refine cc [.int .i64 2] rfl ?_|refine aev ?_ ?_)) ?_;refine a6 Z (a6 ⟨Z,Z,by simp,aet _,rB h (aet _) (abK Z)⟩ (a7 Z (a7 (lk _) ?_)));repeat refine a6 (by repeat' (first|exact tv|exact rfl|refine bZ rfl ?_|refine cc [.int .i64 2] rfl ?_|refine aev ?_ ?_)) ?_
      refine q _ _ _ _ xS ⟨s.snoc ⟨_,oq,Z⟩,by simp only[aeu,abL,aeN]at b⊢;omega⟩ om a ⟨[0,1,2,3,5],Z,dc,by show 4<=5;omega,Z,Z,zr d Z,wZ d (kZ 7 _ Z),Z,Z,Z,Z,jQ _ 7 u k [.str p,.int .i64 (aeM 2),.int .i64 0,.str [],.str [],.ci,.ci],gH _ _ _,tv⟩
    ·exact X0
   ·refine cd.loop ?_;have xS:gG c l e=.bad (c.tok e).off 3:=by simp only[gG,xJ,m,r,y,aeO,if_false]
    repeat refine ch ?_
    refine eF c e (c.tok e) (bY f) 0 ?_ ?_
    ·exact Z
    repeat refine ch ?_
    refine fK _ (c.tok e).off 3 ?_;exact k2 _ _ _ _ xS (by show 4<=5;omega)
def acW:Nat->Bool:=fun a=>aeR a 17
theorem T3{f:Rd}(P:f.Wf){q:Nat->PR Ty}{lo:Nat}(F:ef q f lo)(Q:Nat)(n:cq)(X J:Bool)(o:cq){B:V}{g:List V}(e:fu 0 (B::g)=true)(l:List mM)(i:List cH)(w:Nat)(S:tdI l i w)(U:lo<=w)(H:w<f.ts.length)(D:cO->VS->Prop) 
  (t:∀L I c k,ia q f l w=.ok L c->tdI L I c->w<c->c<f.ts.length->rr 4 (dp f c::k) (dp f c::tdT Q n X J o B g I)->D (.ret (.dS [])) (dp f c::k))
  (N:∀h u c k,ia q f l w=.bad h u->4<=k.length+1->D (.eH (dt h u)) (dp f c::k)):bV C ca pX (nC [2,3]) (dp f w::tdT Q n X J o B g i) D:=by
 have R:=P.len;obtain⟨v,a⟩:=S;refine bV.body acW (fun _=>Z) ?_;refine nG (k:=2) P dc H 0 Z (fun E q1 j=>?_) (fun h u q1 j=>?_)
 ·obtain⟨T,b⟩:=jG P dc H j;refine cI f q1 (f.tok q1) [60,58] (bY b) om 0 Z (fun p=>?_) (fun p=>?_)
  ·have y:=P.step b p;refine F.call (q1+1) om y 0 _ _ Z (fun aa ab q3 x z=>?_) (fun h u q3 x=>?_)
   ·obtain⟨G,O,tn,K,M,rfl⟩:=z.cZ;obtain⟨W,r⟩:=F.lt _ _ _ om y x;have d:ia q f l w=.ok (l++[⟨E,0,aa⟩]) q3:=by simp only[ia,j,p,if_true,x,PR.map]
    intro Y;rcases i with _|⟨A,s⟩
    ·refine cf ?_;refine a6 Z (a6 ⟨abK Z,abK Z⟩ (a7 Z ?_));repeat refine ch ?_
     refine t _ _ _ _ d ⟨v.snoc ⟨_,z,Z⟩,by simp only[aeu,abL,aeN]at a⊢;omega⟩ om r ⟨[0,1,2,3,6],Z,dc,by show 4<=5;omega,Z,Z,DA e Z,wZ e (kZ 7 _ Z),Z,Z,Z,Z,lj _ 7 [.str E,.int .i64 0,.int .i64 (aeM G),.str O,.str tn,K,M],gH _ _ _,tv⟩
    ·have m:s.length+1<=4294967296:=by simp only[abL]at a;omega
     refine cf ?_;refine a6 Z (a6 ⟨Z,Z,by simp,aet _,rB m (aet _) (abK Z)⟩ (a7 Z (a7 (lk _) ?_)));repeat refine ch ?_
     refine t _ _ _ _ d ⟨v.snoc ⟨_,z,Z⟩,by simp only[aeu,abL,aeN]at a⊢;omega⟩ om r ⟨[0,1,2,3,6],Z,dc,by show 4<=5;omega,Z,Z,zr e Z,wZ e (kZ 7 _ Z),Z,Z,Z,Z,jQ _ 7 A s [.str E,.int .i64 0,.int .i64 (aeM G),.str O,.str tn,K,M],gH _ _ _,tv⟩
   ·exact N _ _ _ _ (by simp only[ia,j,p,if_true,x,PR.map]) (by show 4<=6;omega)
  ·have d:ia q f l w=.ok (l++[⟨E,0,cV⟩]) q1:=by simp only[ia,j,p,aeO,if_false]
   intro Y;rcases i with _|⟨A,s⟩
   ·refine cf ?_;refine a6 Z (a6 ⟨abK Z,abK Z⟩ (a7 Z ?_));repeat refine ch ?_
    refine t _ _ _ _ d ⟨v.snoc ⟨_,oq,Z⟩,by simp only[aeu,abL,aeN]at a⊢;omega⟩ om b ⟨[0,1,2,3,6],Z,dc,by show 4<=5;omega,Z,Z,DA e Z,wZ e (kZ 7 _ Z),Z,Z,Z,Z,lj _ 7 [.str E,.int .i64 0,.int .i64 0,.str [],.str [],.ci,.ci],gH _ _ _,tv⟩
   ·have m:s.length+1<=4294967296:=by simp only[abL]at a;omega
    refine cf ?_;refine a6 Z (a6 ⟨Z,Z,by simp,aet _,rB m (aet _) (abK Z)⟩ (a7 Z (a7 (lk _) ?_)));repeat refine ch ?_
    refine t _ _ _ _ d ⟨v.snoc ⟨_,oq,Z⟩,by simp only[aeu,abL,aeN]at a⊢;omega⟩ om b ⟨[0,1,2,3,6],Z,dc,by show 4<=5;omega,Z,Z,zr e Z,wZ e (kZ 7 _ Z),Z,Z,Z,Z,jQ _ 7 A s [.str E,.int .i64 0,.int .i64 0,.str [],.str [],.ci,.ci],gH _ _ _,tv⟩
 ·exact N _ _ _ _ (by simp only[ia,j]) (by show 4<=5;omega)
end Go.Proofs.YtpejealjkmhkgaaGreatDoor
namespace Go.VM
open Go.AM
section
variable{Φ:Fz} {ρ:Nat->Nat} {σ:VS} {st:St}
theorem Real.forget(h:Real Φ ρ σ st)(g:Nat):Real Φ ρ (σ.set g .gone) st:=by
 have BM:∀(j:Nat) (a:cN),(σ.set g .gone:VS)[j]?=some a->live a=true->σ[j]?=some a:=by
  intro j a hj b;rw[List.getElem?_set]at hj;split at hj
  ·split at hj
   ·cases hj;cases b
   ·cases hj
  ·exact hj
 refine⟨h.wf,h.wm,h.fz,h.PJ,h.ss,h.PK,fun j es els c e f p hj hg=>h.K2 j es els c e f p (BM j _ hj Z) hg,fun j a hj b=>?_,fun j k a ok hj hk d Ld e=>h.inj j k a ok (BM j _ hj d) (BM k _ hk Ld) d Ld e,fun j es els c e f p ms x hj hg hm hx hn=>?_⟩
 ·rw[aeP];exact h.obj j a (BM j a hj b) b
 ·exact aan
theorem cU.forget(d:Nat){f:Nat}{b:cO}{K:cO->VS->Prop}(g:cU f b (σ.set d .gone) K):cU f b σ K:=by
 refine⟨fun Φ ρ st c e=>?_⟩;have a:CW Φ (σ.set d cN.gone).length b:=by rw[aeP];exact e
 exact g.go Φ ρ st (c.forget d) a
end
end Go.VM
namespace Go.Proofs.YtpejealjkmhkgaaGreatDoor
open Go.AM Go.VM
def q0:cH:=[.int .i64 0,.str [],.str [],.ci,.ci]
def Ke:cH:=[.int .i64 0,.str [],.str [],.str [],.int .i64 0,.ci,.ci,.ci]
theorem Kf:eZ cV q0:=.mk .nil .nil
theorem ZU:je oe Ke:=.mk .nil .nil .nil
def dcV(h:Nat)(n:cq)(j e:Bool)(a:cq)(c:D)(lo g f b:cH)(i d:cq):List V:=(mR h n j e a c lo g f b i d).map V.d
abbrev dc0(c b:Bool)(a:cq):List V:=dcV 0 [] c b a .ci q0 q0 q0 Ke [] []
def dcK(g:Rd)(i:PR jX)(e:cO)(b d:cN):Prop:=match i with
 |.ok h c=>e=.ret (.dS [])/\b=dp g c/\∃f,rs h f/\d=.box (f.map V.d)
 |.bad a j=>e=.eH (dt a j)/\∃c,b=dp g c
def DcS(f:Rd)(e:PR jX)(d:cO)(c:VS):Prop:=∃b a,c=[b,a]/\cM d=true/\fW 0 b=true/\fW 0 a=true/\dcK f e d b a
theorem Kg{g:Rd}{f:Nat}{e:PR jX}{d:jX}{c:cH}{b:VS}(h:e=.ok d f)(a:rs d c):cU 2 (.ret (.dS [])) (dp g f:: .box (c.map V.d)::b) (DcS g e):=by
 subst h;exact cU.drop 2 Z (zc Z (qW 2 c)) Z (cU.now Z ⟨_,_,Z,Z,Z,qW 0 c,Z,Z,c,a,Z⟩)
theorem ku{h:Rd}{g b i:Nat}{f:PR jX}{a:VS}(j:f=.bad b i)(d:1<=a.length):cU 2 (.eH (dt b i)) (dp h g::a) (DcS h f):=by
 subst j;obtain⟨c,a,rfl⟩:∃c e,a=c::e:=by cases a with
  |nil=>simp at d
  |cons c e=>exact⟨c,e,rfl⟩
 refine cU.forget 1 ?_;exact cU.drop 2 Z (zc Z Z) Z (cU.now Z ⟨_,_,Z,Z,Z,Z,Z,g,Z⟩)
def ad7:Nat->Bool:=fun a=>aeR a 13||aeR a 21
theorem vg{m:Rd}(i:m.Wf)(s e:Bool)(a:cq){p:Nat}(n:p<m.ts.length):bV C ca Am [.bp 0 0,.bp 1 0] [dp m p,.box (dc0 s e a)] (DcS m (kQ m s e a p)):=by
 have v:=i.len;refine cv ad7 (fun _=>Z) ?_;refine pu i n 0 Z (fun z y b=>?_) (fun h l y b=>?_)
 ·obtain⟨_,u⟩:=fS i n b;intro t;refine gZ i [58,58] u t _ 0 ?_ (fun c g=>?_) (fun c x=>?_)
  ·exact Z
  ·refine(ve i).call (y+1) g 0 ?_ (fun o q2 d=>?_) (fun h l q2 d=>?_)
   ·exact Z
   ·obtain⟨_,q⟩:=(ve i).lt _ _ _ g d;intro w;refine gZ i [97,115] q w _ 0 ?_ (fun f r=>?_) (fun f x=>?_)
    ·exact Z
    ·refine(ve i).call (q2+1) r 0 ?_ (fun k q4 j=>?_) (fun h l q4 j=>?_)
     ·exact Z
     ·exact Kg (c:=mR 2 k s e a .ci q0 q0 q0 Ke z o) (d:=⟨2,k,s,e,a,[],cV,cV,cV,oe,z,o⟩) (by simp only[kQ,b,dI,cu,c,if_true,d,f,j,PR.map]) ⟨_,_,_,_,_,.nil,Kf,Kf,Kf,ZU,Z⟩
     ·exact ku (by simp only[kQ,b,dI,cu,c,if_true,d,f,j,PR.map]) sm
    ·exact ku (by simp only[kQ,b,dI,cu,c,if_true,d,f,if_false,aeO,PR.map]) sm
   ·exact ku (by simp only[kQ,b,dI,cu,c,if_true,d]) sm
  ·exact ku (by simp only[kQ,b,dI,cu,c,if_false,aeO]) sm
 ·exact ku (by simp only[kQ,b]) sm
def T4:List V:=[cn [],cn [],.d .ci,.d .ci]++((q0++(q0++(Ke++[D.str [],D.str []]))).map V.d)
def Vj:Tm:=[(2,.bp 2 0),(3,.bp 3 0)]
def Kh(j:Rd)(h:Nat)(n:cq)(k d:Bool)(a:cq)(lo f e b:cH)(i c:cq)(g:Nat×List mM×D):VS:=[dp j g.1,.box (dcV h n k d a g.2.2 lo f e b i c),.box [.bp 0 0],.box [.bp 1 0]]
def ad8:Nat->Bool:=fun a=>aeR a 18||aeR a 26||aeR a 1000004
theorem T5{d:Type}{g:Rd}(r:g.Wf){step:d->Nat->PR d}{lo:Nat}(n:∀f b a c,lo<=b->b<g.ts.length->step f b=.ok a c->b<c/\c<g.ts.length):∀(i:Nat) (f:d) (b:Nat) (a:d) (c:Nat),lo<=b->b<g.ts.length->qY step g i f b=.ok a c->b<c/\c<g.ts.length:=by
 intro i;induction i with
 |zero=>intro f b a c _ _ e;cases e
 |succ i o=>
  intro f b a c l j e;rw[qY]at e;split at e
  ·cases e
  ·rename_i q q1 k;obtain⟨v,p⟩:=n f b q q1 l j k;split at e
   ·rename_i m;have:=r.step p m;obtain⟨t,s⟩:=o q _ a c om this e;exact⟨om,s⟩
   ·obtain⟨u,h,_⟩:=dv e;have e1:=cL _ _ _ h;have e2:=da r _ _ _ p h;exact XP
theorem vh{c:Rd}(H:c.Wf){g:Nat->PR Ty}{t:Nat->PR Ex}{p:Nat}(E:ef g c p)(W:mA cR t c p)(f b:Bool)(a:cq)(T:p<c.ts.length):bV C ca Al [.bp 0 0,.bp 1 0] [dp c p,.box (dc0 f b a)] (DcS c (mB g t c f b a p)):=by
 have ad:=H.len;refine cv ad8 (fun _=>Z) ?_;repeat refine ch ?_
 refine pu H T 0 ?_ (fun m l j=>?_) (fun k B l j=>?_)
 ·exact Z
 ·obtain⟨aB,J⟩:=fS H T j;repeat refine ch ?_
  apply dH (T:=fun _=>Vj) (S:=Kh c 1 m f b a q0 q0 q0 Ke [] []) (I:=fun n:Nat×List mM×D=>l<=n.1/\n.1<c.ts.length/\tG n.2.1 n.2.2/\jZ (ia g c) c [] l=.ok n.2.1 n.1)
  ·intro I;refine qV c l (c.tok l) [91] (bY J) 0 ?_ ?_
   ·exact Z
   apply aZ<;>intro L
   ·refine FQ H (ia g c) tdI (tdT 1 m f b a (bW 0) T4) [.box (dcV 1 m f b a .ci q0 q0 q0 Ke [] []),.box [.bp 0 0],.box [.bp 1 0]] 4 pX Z [2,3] (g0:=[]) (a0:=[]) J L ⟨.nil,aeQ _⟩ (fun ay ab l az=>⟨az.1,Nat.le_succ_of_le az.2⟩) Z Z (fun ab=>by show 4<=5;omega) dc (fun ay ab q2 e aG ae ak aq af=>T3 H E 1 m f b a Z ay ab q2 e om ae ak aq af) (fun aa X q2 s U ax h=>?_) (fun k B q2 aL s aI=>?_)
    ·have u:l<=q2:=om;rcases X with _|⟨O,q⟩
     ·have K:aa=[]:=List.eq_nil_of_length_eq_zero U.1.len.symm;subst K;exact cw (dB:=Vj) (fU:=Kh c 1 m f b a q0 q0 q0 Ke [] [] (q2,[],.ci)) (.eP 2 [0,1,2,3]) (I (q2,[],.ci) ⟨u,h,.nil,s⟩)
     ·refine rk 4 1 Vj (es:=7) (l:=O::q) Z Z (gk _) ⟨Z,Z,tv⟩ ⟨tv,tv,tv⟩ (by repeat' (first|exact tv|exact fun _=>⟨rfl,by simp⟩|refine aev ?_ ?_)) (fun aD=>?_);exact cw (dB:=Vj) (fU:=Kh c 1 m f b a q0 q0 q0 Ke [] [] (q2,aa,.ps aD (0*7) 7 (q.length+1) (List.take (q.length+1) (List.drop 0 (O::q))))) (.eP 2 [0,1,2,3]) (I (q2,aa,_) ⟨u,h,by rw[eT _ _ sm];exact .ps U.1,s⟩)
    ·exact ku (by simp only[mB,j,s]) om
   ·refine cw (dB:=Vj) (fU:=Kh c 1 m f b a q0 q0 q0 Ke [] [] (l,[],.ci)) .eS (I (l,[],.ci) ⟨aet _,J,.nil,by rw[jZ,if_neg (by rw[L];decide)]⟩)
  ·rintro⟨q1,o,v⟩ ⟨V,S,Y,Q⟩;have aA:l<=q1:=V;have h:q1<c.ts.length:=S;have P:tG o v:=Y;have u:jZ (ia g c) c [] l=.ok o q1:=Q;clear V S Y Q;have d:mB g t c f b a p=match dI g c [58] q1 with
     |.bad aC f=>.bad aC f
     |.ok av q2=>(dI t c [61] q2).map fun n=>⟨1,m,f,b,a,o,cV,cV,av,n,[],[]⟩:=by
    simp only[mB,j,u];rfl
   intro ai;refine gZ H [58] h ai _ 0 Z (fun e y=>?_) (fun e ah=>?_)
   ·repeat refine ch ?_
    refine E.call (q1+1) om y 0 _ _ ?_ (fun av aH q3 i z=>?_) (fun k B q3 i=>?_)
    ·exact Z
    ·obtain⟨ac,ag,tn,aj,ao,rfl⟩:=z.cZ;obtain⟨aw,F⟩:=E.lt _ _ _ om y i;repeat refine ch ?_
     intro au;refine gZ H [61] F au _ 0 ?_ (fun r N=>?_) (fun r ah=>?_)
     ·exact Z
     ·repeat refine ch ?_
      refine W.call (q3+1) om N 0 _ _ ?_ (fun n aF am G A=>?_) (fun k B am G=>?_)
      ·exact Z
      ·obtain⟨al,aJ,aN,an,M,R,ap,ar,rfl⟩:=A.eight;repeat refine ch ?_
       exact Kg (c:=mR 1 m f b a v q0 q0 [.int .i64 (aeM ac),.str ag,.str tn,aj,ao] [.int .i64 (aeM al),.str aJ,.str aN,.str an,.int .i64 M,R,ap,ar] [] []) (d:=⟨1,m,f,b,a,o,cV,cV,av,n,[],[]⟩) (by rw[d];simp only[dI,cu,e,if_true,i,r,G,PR.map]) ⟨_,_,_,_,_,P,Kf,Kf,z,A,Z⟩
      ·exact ku (by rw[d];simp only[dI,cu,e,if_true,i,r,G,PR.map]) sm
     ·exact ku (by rw[d];simp only[dI,cu,e,if_true,i,r,if_false,aeO,PR.map]) sm
    ·exact ku (by rw[d];simp only[dI,cu,e,if_true,i]) sm
   ·exact ku (by rw[d];simp only[dI,cu,e,if_false,aeO]) sm
 ·exact ku (by simp only[mB,j]) sm
def ad9:Nat->Bool:=fun a=>aeR a 1000005||aeR a 1000010
def Vk:Tm:=[(1,.d .ci),(2,.d .ci),(3,.bp 0 0),(6,.bp 1 0)]
def oV(b es:Nat):Option (List cH)->V
 |none=>.d .ci
 |some a=>.ms b es 0 a.length a.length
def oO(es:Nat):Option (List cH)->cN
 |none=>.gone
 |some b=>.row es (b.map fun a=>a.map V.d)
def RA(d:Nat)(c b:cq)(a:Option (List cH)×Option (List cH)):VS:=[.box [bW d,cn c,cn b,oV 2 5 a.1,oV 3 7 a.2],.box tX,oO 5 a.1,oO 7 a.2]
def Oz(a:List Ty):Option (List cH)->Prop
 |none=>a=[]
 |some b=>dz a b/\b≠[]
def T6(a:List oG):Option (List cH)->Prop
 |none=>a=[]
 |some b=>u5 a b
theorem aba(a:cH)(b:List cH){c:Nat}(f:b.length+1<=4294967296)(d:c<=200):(0+(aeT (fun e=>aeT V.d e) (a::b)).length)*c<=fy/\0+(aeT (fun e=>aeT V.d e) (a::b)).length<=fy:=by
 simp only[aeS,List.length_map,abL];unfold fy;constructor
 ·calc (b.length+1)*c<=4294967296*200:=Nat.mul_le_mul om d
   _<=_:=dc
 ·omega
theorem dz.set{l:List Ty}{a:List cH}(h:dz l a){i:Nat}(hi:i<l.length){b:cH}(hd:eZ l[i] b):dz l (a.set i b):=by
 induction l generalizing a i with
 |nil=>simp at hi
 |cons c l ih=>
  exact aai
theorem u5.set{l:List oG}{a:List cH}(h:u5 l a){i:Nat}(hi:i<l.length){b:cH}(hd:eZ l[i].2.1 b):u5 l (a.set i (.str l[i].1::b++[.bool l[i].2.2])):=by
 induction l generalizing a i with
 |nil=>simp at hi
 |cons c l ih=>
  obtain⟨d,e,f⟩:=c;exact aai
theorem xP{a:Nat->Nat}{h:Nat}{i d:cq}{e c j b:V}(g:e=gW a j)(f:c=gW a b):some (cN.box [bW h,cn i,cn d,e,c])=some (dF a (.box [bW h,cn i,cn d,j,b])):=by
 subst g f;rfl
theorem qd{a:Nat->Nat}{c d es n:Nat}{l:List cH}(e:a c=d)(b:n=l.length):V.ms d es 0 n n=gW a (oV c es (some l)):=by
 subst e b;rfl
theorem WN{a:Nat->Nat}{b es:Nat}(o:Option (List cH))(c:a b=b):oV b es o=gW a (oV b es o):=by
 cases o with
 |none=>rfl
 |some d=>show V.ms _ _ _ _ _=V.ms _ _ _ _ _;rw[c]
theorem OA{a:Nat->Nat}{es:Nat}(o:Option (List cH)):some (oO es o)=some (dF a (oO es o)):=by
 cases o with
 |none=>rfl
 |some b=>exact congrArg some (sM a es b).symm
theorem OB{a:Nat->Nat}{es:Nat}(l:List cH)(c:Nat)(b:cH):some (cN.row es ((l.map fun b=>b.map V.d).set (0+c) (b.map V.d)))=some (dF a (oO es (some (l.set c b)))):=by
 show _=some (dF a (.row es _));rw[sM,aeS,List.map_set]
theorem T7{a h:Nat}{g f:cq}{d b:V}(c:bd a d=true)(e:bd a b=true):fW a (.box [bW h,cn g,cn f,d,b])=true:=by
 show(true&&(true&&(true&&(bd a d&&(bd a b&&true)))))=true;rw[c,e];rfl
theorem OC{a b es:Nat}(o:Option (List cH))(c:Nat.blt b a=true):bd a (oV b es o)=true:=by
 cases o with
 |none=>rfl
 |some d=>exact c
theorem vj{a:Nat->Nat}{es:Nat}(l:List cH):some (cN.row es (List.take 0 (List.drop 0 [])++aeT (fun b=>aeT V.d b) l))=some (dF a (oO es (some l))):=by
 show _=some (dF a (.row es _));rw[sM];rfl
theorem q6(a es:Nat)(o:Option (List cH)):fW a (oO es o)=true:=by
 cases o with
 |none=>rfl
 |some b=>exact jv a es b
theorem Ki(n:Nat)(ai:∀(t:Ty) (L:cH),ct t<=n->eZ t L->ft t->∀{σ:VS} {aI:cO->VS->Prop},(∀z,eZ t z->aI (.ret (.agg (z.map V.d))) σ)->bV C ca kN [.agg (L.map V.d),.d .ci,.d .ci] σ aI) 
  (t:Ty) (L:cH) (aK:ct t<=n+1) (aP:n<4294967295) (aC:eZ t L) (Y:ft t):bV C ca kN [.agg (L.map V.d),.d .ci,.d .ci] [] fun ao X=>X=[]/\cM ao=true/\∃z,eZ t z/\ao=.ret (.agg (z.map V.d)):=by
 cases aC with
 |mk aq aj=>
 rename_i k o g b a aE aF;have aJ:decide (aeM k=9)=false:=by
  refine decide_eq_false fun E=>?_;have E:k=9:=by simp only[Int.ofNat_eq_natCast]at E;omega
  subst E;cases Y with
  |mk Y _=>
   cases Y with
   |base E=>omega
 have ac:=eO (.mk k o g b a);have aD:=dA (dD (.mk k o g b a));have aH:(dD (.mk k o g b a)).length=b.length+a.length:=by simp[dD,ea]
 have ax:(aE=.ci/\b=[])∨∃K ay az l j,aE=.ps K ay 5 az (l::j)/\dz b (l::j)/\j.length+1=b.length:=by
  cases aq with
  |nil=>exact .inl ⟨rfl,rfl⟩
  |ps E q=>
   rename_i e;have:=E.len;cases e with
   |nil=>exact absurd rfl q
   |cons l j=>exact .inr ⟨_,_,_,l,j,rfl,E,this⟩
 have ab:(aF=.ci/\a=[])∨∃K ay az e,aF=.ps K ay 7 az e/\u5 a e/\e.length=a.length:=by
  cases aj with
  |nil=>exact .inl ⟨rfl,rfl⟩
  |ps E=>exact .inr ⟨_,_,_,_,rfl,E,E.len⟩
 clear aq aj;refine cv ad9 (fun _=>Z) ?_;refine cj ?_;refine cd.loop ?_;repeat refine de ?_
 apply dH (T:=fun _=>Vk) (S:=RA k o g) (I:=fun h:Option (List cH)×Option (List cH)=>Oz b h.1/\T6 a h.2)
 ·intro P;repeat refine ch ?_
  rcases ax with⟨rfl,f⟩|⟨K,ay,az,l,j,rfl,f,aG⟩
  ·refine cj ?_;repeat refine ch ?_
   rcases ab with⟨rfl,i⟩|⟨aa,aB,aA,e,rfl,i,Q⟩
   ·refine cj ?_;repeat refine ch ?_
    exact cd.gone (cd.gone (cw (dB:=Vk) (fU:=RA k o g (none,none)) .eS (P _ ⟨f,i⟩)))
   ·rcases e with _|⟨f0,F⟩
    ·refine cj ?_;refine a6 Z (a6 ⟨Z,Z,aet _,aet _,⟨aeQ _,aeQ _⟩⟩ ?_);repeat refine ch ?_
     exact cd.gone (cw (dB:=Vk) (fU:=RA k o g (none,(some []))) (.pick 0 [0,1,3,2] ⟨Z,Z,Z,Z,tv⟩ Z Z Z Z Z dc ⟨xP Z (qd Z Z),Z,Z,Z,Z,q6 _ _ _,Z,q6 _ _ _,tv⟩) (P (none,(some [])) ⟨f,i⟩))
    ·simp only[abL]at Q;refine cj ?_;refine a6 Z (a6 ⟨Z,Z,aet _,aet _,aba f0 F om (abK Z)⟩ ?_);refine a7 Z (a7 Z ?_);repeat refine ch ?_
     exact cd.gone (cw (dB:=Vk) (fU:=RA k o g (none,(some (f0::F)))) (.pick 0 [0,1,4,3] ⟨Z,Z,Z,Z,tv⟩ Z Z Z Z Z dc ⟨xP Z (qd Z sm),Z,Z,Z,Z,q6 _ _ _,(vj (f0::F)),q6 _ _ _,tv⟩) (P (none,(some (f0::F))) ⟨f,i⟩))
  ·refine cj ?_;refine a6 Z (a6 ⟨Z,Z,aet _,aet _,aba l j om (abK Z)⟩ ?_);refine a7 Z (a7 Z ?_);repeat refine ch ?_
   rcases ab with⟨rfl,i⟩|⟨aa,aB,aA,e,rfl,i,Q⟩
   ·refine cj ?_;repeat refine ch ?_
    exact cd.gone (cw (dB:=Vk) (fU:=RA k o g ((some (l::j)),none)) (.pick 0 [0,1,3,4] ⟨Z,Z,Z,Z,tv⟩ Z Z Z Z Z dc ⟨xP (qd Z sm) Z,Z,Z,Z,(vj (l::j)),q6 _ _ _,Z,q6 _ _ _,tv⟩) (P ((some (l::j)),none) ⟨⟨f,by simp⟩,i⟩))
   ·rcases e with _|⟨f0,F⟩
    ·refine cj ?_;refine a6 Z (a6 ⟨Z,Z,aet _,aet _,⟨aeQ _,aeQ _⟩⟩ ?_);repeat refine ch ?_
     exact id (cw (dB:=Vk) (fU:=RA k o g ((some (l::j)),(some []))) (.pick 0 [0,1,3,4] ⟨Z,Z,Z,Z,tv⟩ Z Z Z Z Z dc ⟨xP (qd Z sm) (qd Z Z),Z,Z,Z,(vj (l::j)),q6 _ _ _,Z,q6 _ _ _,tv⟩) (P ((some (l::j)),(some [])) ⟨⟨f,by simp⟩,i⟩))
    ·simp only[abL]at Q;refine cj ?_;refine a6 Z (a6 ⟨Z,Z,aet _,aet _,aba f0 F om (abK Z)⟩ ?_);refine a7 Z (a7 Z ?_);repeat refine ch ?_
     exact id (cw (dB:=Vk) (fU:=RA k o g ((some (l::j)),(some (f0::F)))) (.pick 0 [0,1,3,5] ⟨Z,Z,Z,Z,tv⟩ Z Z Z Z Z dc ⟨xP (qd Z sm) (qd Z sm),Z,Z,Z,(vj (l::j)),q6 _ _ _,(vj (f0::F)),q6 _ _ _,tv⟩) (P ((some (l::j)),(some (f0::F))) ⟨⟨f,by simp⟩,i⟩))
 ·rintro⟨D,s⟩ ⟨f,i⟩;have f:Oz b D:=f;have i:T6 a s:=i;have ae:∀aL∈dD (.mk k o g b a),ft aL:=by cases Y with|mk _ E=>exact E
  have M:dD (.mk k o g b a)=b++ea a:=rfl;apply dH (T:=fun _=>Vk) (S:=RA k o g) (I:=fun h:Option (List cH)×Option (List cH)=>Oz b h.1/\T6 a h.2)
  ·intro ad;rcases D with _|c
   ·refine cd.loop ?_;exact cw (dB:=Vk) (fU:=RA k o g (none,s)) .eS (ad (none,s) ⟨f,i⟩)
   ·obtain⟨f,q⟩:=f;refine cD (dB:=[(1,.d .ci),(2,.d .ci),(3,.bp 0 0),(6,.bp 1 0),(43,.ms 2 5 0 c.length c.length),(44,bW c.length),(45,bW 0)]) ?_;refine cd.iter (fun h:Nat×List cH=>[(1,.d .ci),(2,.d .ci),(3,.bp 0 0),(6,.bp 1 0),(43,.ms 2 5 0 h.2.length h.2.length),(44,bW h.2.length),(45,bW h.1)]) (fun h=>RA k o g (some h.2,s)) (fun h=>b.length-h.1) (fun h=>h.1<=b.length/\dz b h.2/\h.2≠[]) ?_ (0,c) ⟨aeQ _,f,q⟩;rintro⟨m,e⟩ ⟨W,f,q⟩;have W:m<=b.length:=W;have f:dz b e:=f;have q:e≠[]:=q;have T:=f.len;apply aZ<;>intro E
    ·have G:m<b.length:=T▸ee E;obtain⟨L,ag,N⟩:=f.get G;have v:b[m]∈b:=List.getElem_mem G;have R:ct b[m]<=n:=by have:=dJ v;rw[M,ga]at ac;omega
     have S:ft b[m]:=ae _ (by rw[M];exact List.mem_append_left _ v);obtain⟨av,ap,an,am,f1,rfl⟩:=N.cZ;have J:nth (e.map fun L=>L.map V.d) (0+m)=some (qk av ap an am f1):=by rw[aeS,ck,List.getElem?_map,ag];rfl
     have I:m<e.length:=om;refine bZ Z ?_;refine a6 I ?_;refine cc _ J ?_;repeat refine ch ?_
     refine ai b[m] [.int .i64 (aeM av),.str ap,.str an,am,f1] R N S (fun z H=>?_);obtain⟨x,B,y,A,f2,rfl⟩:=H.cZ;repeat refine ch ?_
     refine bZ Z ?_;refine a6 I ?_;repeat refine cf ?_
     refine cc _ J ?_;have af:nth ((e.map fun L=>L.map V.d).set (0+m) (qk x B y A f2)) (0+m)=some (qk x B y A f2):=by rw[ck,aeU (by simp;omega)]
     repeat refine cf ?_
     refine⟨(m+1,e.set m [.int .i64 (aeM x),.str B,.str y,A,f2]),⟨G,f.set G H,by simp[q]⟩,iK,.pick 0 [0,1,2,3] ⟨Z,Z,Z,Z,congrArg some (qd (l:=e.set m _) Z aeP.symm),int_eq (by rw[aeP]),int_eq (cp om),tv⟩ Z Z Z Z Z dc ⟨xP (qd Z aeP.symm) (WN s Z),T7 (OC _ Z) (OC _ Z),Z,Z,OB e m [.int .i64 (aeM x),.str B,.str y,A,f2],q6 _ _ _,OA s,q6 _ _ _,tv⟩,Z,Z⟩
    ·exact cw (dB:=Vk) (fU:=RA k o g (some e,s)) .eS (ad (some e,s) ⟨⟨f,q⟩,i⟩)
  ·rintro⟨D,s⟩ ⟨f,i⟩;have f:Oz b D:=f;have i:T6 a s:=i;have U:∀w,T6 a w->cU 0 (.ret (.agg [bW k,cn o,cn g,oV 2 5 D,oV 3 7 w])) [.box [bW k,cn o,cn g,oV 2 5 D,oV 3 7 w],.box [bW k,cn o,cn g,oV 2 5 D,oV 3 7 w],oO 5 D,oO 7 w] fun ao X=>X=[]/\cM ao=true/\∃z,eZ (.mk k o g b a) z/\ao=.ret (.agg (z.map V.d)):=by
    intro w r;rcases D with _|c<;>rcases w with _|d
    ·have f:b=[]:=f;have r:a=[]:=r;subst f r;exact a8 0 ⟨Z,Z,[.int .i64 (aeM k),.str o,.str g,.ci,.ci],.mk .nil .nil,Z⟩
    ·have f:b=[]:=f;subst f;refine cU.freeze 3 (es:=7) (l:=d) Z (gk d) (by repeat' (first|exact tv|exact fun _=>⟨rfl,by simp⟩|refine aev ?_ ?_)) (fun K=>?_);rw[show wq 3 K d (.ret (.agg [bW k,cn o,cn g,oV 2 5 none,oV 3 7 (some d)]))=.ret (.agg (([.int .i64 (aeM k),.str o,.str g,.ci,.ps K (0*7) 7 d.length ((d.drop 0).take d.length)]:cH).map V.d))from rfl,eT _ _ rfl];exact a8 0 ⟨Z,Z,_,.mk .nil (.ps r),Z⟩
    ·have r:a=[]:=r;subst r;refine cU.freeze 2 (es:=5) (l:=c) Z (gk c) (by repeat' (first|exact tv|exact fun _=>⟨rfl,by simp⟩|refine aev ?_ ?_)) (fun K=>?_);rw[show wq 2 K c (.ret (.agg [bW k,cn o,cn g,oV 2 5 (some c),oV 3 7 none]))=.ret (.agg (([.int .i64 (aeM k),.str o,.str g,.ps K (0*5) 5 c.length ((c.drop 0).take c.length),.ci]:cH).map V.d))from rfl,eT _ _ rfl];exact a8 0 ⟨Z,Z,_,.mk (.ps f.1 f.2) .nil,Z⟩
    ·refine cU.freeze 2 (es:=5) (l:=c) Z (gk c) (by repeat' (first|exact tv|exact fun _=>⟨rfl,by simp⟩|exact fun E=>absurd (show(3:Nat)=2 from E) dc|exact fun E=>absurd (show(2:Nat)=3 from E) dc|refine aev ?_ ?_)) (fun K=>?_);rw[show wq 2 K c (.ret (.agg [bW k,cn o,cn g,oV 2 5 (some c),oV 3 7 (some d)]))=.ret (.agg [bW k,cn o,cn g,.d (.ps K (0*5) 5 c.length ((c.drop 0).take c.length)),.ms 3 7 0 d.length d.length])from rfl,eT _ _ rfl];refine cU.freeze 3 (es:=7) (l:=d) Z (gk d) (by repeat' (first|exact tv|exact fun _=>⟨rfl,by simp⟩|refine aev ?_ ?_)) (fun aa=>?_);rw[show wq 3 aa d (.ret (.agg [bW k,cn o,cn g,.d (.ps K (0*5) 5 c.length c),.ms 3 7 0 d.length d.length]))=.ret (.agg (([.int .i64 (aeM k),.str o,.str g,.ps K (0*5) 5 c.length c,.ps aa (0*7) 7 d.length ((d.drop 0).take d.length)]:cH).map V.d))from rfl,eT _ _ rfl];exact a8 0 ⟨Z,Z,_,.mk (.ps f.1 f.2) (.ps r),Z⟩
   rcases D with _|c;all_goals
    rcases s with _|d
    ·refine cd.loop ?_;exact U none i
    ·refine cD (dB:=[(1,.d .ci),(2,.d .ci),(3,.bp 0 0),(6,.bp 1 0),(60,.ms 3 7 0 d.length d.length),(61,bW d.length),(62,bW 0)]) ?_;refine cd.iter (fun h:Nat×List cH=>[(1,.d .ci),(2,.d .ci),(3,.bp 0 0),(6,.bp 1 0),(60,.ms 3 7 0 h.2.length h.2.length),(61,bW h.2.length),(62,bW h.1)]) (fun h=>RA k o g (_,some h.2)) (fun h=>a.length-h.1) (fun h=>h.1<=a.length/\u5 a h.2) ?_ (0,d) ⟨aeQ _,i⟩;rintro⟨m,e⟩ ⟨W,O⟩;have W:m<=a.length:=W;have O:u5 a e:=O;have T:=O.len;apply aZ<;>intro E
     ·have G:m<a.length:=T▸ee E;obtain⟨h,ag,ak,al,N⟩:=O.get G;have v:a[m].2.1∈ea a:=List.mem_map.2 ⟨_,List.getElem_mem G,rfl⟩;have R:ct a[m].2.1<=n:=by have:=dJ v;rw[M,ga]at ac;omega
      have S:ft a[m].2.1:=ae _ (by rw[M];exact List.mem_append_right _ v);have J:nth (e.map fun L=>L.map V.d) (0+m)=some [cn h.n,bW h.k,cn h.m,cn h.nm,.d h.a,.d h.f,bX h.o]:=by rw[aeS,ck,List.getElem?_map,ag];rfl
      have I:m<e.length:=om;refine bZ Z ?_;refine a6 I ?_;refine cc _ J ?_;repeat refine ch ?_
      refine ai a[m].2.1 h.ty R N S (fun z H=>?_);obtain⟨x,B,y,A,f2,rfl⟩:=H.cZ;repeat refine cf ?_
      refine bZ Z ?_;refine a6 I ?_;repeat refine cf ?_
      refine cc _ J ?_;have af:nth ((e.map fun L=>L.map V.d).set (0+m) [cn h.n,bW x,cn B,cn y,.d A,.d f2,bX h.o]) (0+m)=some [cn h.n,bW x,cn B,cn y,.d A,.d f2,bX h.o]:=by rw[ck,aeU (by simp;omega)]
      repeat refine cf ?_
      have aw:u5 a (e.set m [.str h.n,.int .i64 (aeM x),.str B,.str y,A,f2,.bool h.o]):=by
       have:=O.set G H;rw[ak,al]at this;exact this
      refine⟨(m+1,e.set m [.str h.n,.int .i64 (aeM x),.str B,.str y,A,f2,.bool h.o]),⟨G,aw⟩,iK,.pick 0 [0,1,2,3] ⟨Z,Z,Z,Z,congrArg some (qd (l:=e.set m _) Z aeP.symm),int_eq (by rw[aeP]),int_eq (cp om),tv⟩ Z Z Z Z Z dc ⟨xP Z (qd Z aeP.symm),T7 (OC _ Z) (OC _ Z),Z,Z,OA _,q6 _ _ _,OB e m [.str h.n,.int .i64 (aeM x),.str B,.str y,A,f2,.bool h.o],q6 _ _ _,tv⟩,Z,Z⟩
     ·exact U (some e) O
theorem FR:∀(f:Nat),f<4294967296->∀(b:Ty) (d:cH),ct b<=f->eZ b d->ft b->∀{σ:VS} {h:cO->VS->Prop},(∀a,eZ b a->h (.ret (.agg (a.map V.d))) σ)->bV C ca kN [.agg (d.map V.d),.d .ci,.d .ci] σ h:=by
 intro f;induction f with
 |zero=>intro _ b d g;have:=gO b;omega
 |succ f l=>
  intro o b d i c e σ h k;have j:=Ki f (fun b d g c e=>l om b d g c e) b d i om c e;obtain⟨s,t,n,q,r,rfl⟩:=c.cZ;exact bV.closed (P:=fun m=>∃a,eZ b a/\m=.ret (.agg (a.map V.d))) j Z (fun m ⟨a,g,p⟩=>by rw[p];exact k a g)
end Go.Proofs.YtpejealjkmhkgaaGreatDoor
