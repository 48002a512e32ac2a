/- Part of the proof. -/
import Derived.Test.YtpejealjkmhkgaaGreatDoorKBi
set_option linter.all false
set_option maxHeartbeats 16000000
set_option maxRecDepth 100000
open Int renaming ofNat->abK
open Nat renaming le_refl->abL,le_of_ble_eq_true->aev,zero_le->aeN,beq->aeO
open Bool renaming false_eq_true->aet
open List renaming eq_nil_of_length_eq_zero->aeu,length_cons->aeM,take->aeP,map_append->aeQ,drop->aeR,getElem?_eq_getElem->aeS,take_of_length_le->aeT,map->aeU
namespace Go.Proofs.YtpejealjkmhkgaaGreatDoor
open Go.AM Go.VM
def eQ(c:Nat)(b n:cq)(a f:D):cH:=[.int .i64 (abK c),.str b,.str n,a,f]
abbrev Kj:=Nat×Bool×Ty×Nat×cq×cq×D×D
def Kj.c(a:Kj):cH:=eQ a.2.2.2.1 a.2.2.2.2.1 a.2.2.2.2.2.1 a.2.2.2.2.2.2.1 a.2.2.2.2.2.2.2
def aea:Nat->Bool:=fun a=>aeO a 40||aeO a 1000004||aeO a 1000008||aeO a 1000011
def abb(b:Bool):Tm:=[(2,.bp 2 0),(3,.bp 3 0),(4,bX b)]
def abc(b a:Bool):Tm:=[(2,.bp 2 0),(3,.bp 3 0),(4,bX b),(5,bX a)]
def abd(e:Rd)(n:cq)(f c:Bool)(a:cq)(b:D)(d:Kj):VS:=[dp e d.1,.box (dcV 0 n f c a b d.c q0 q0 Ke [] []),.box [.bp 0 0],.box [.bp 1 0]]
def abe(e:Rd)(n:cq)(f c:Bool)(a:cq)(b:D)(lo:cH)(d:Kj):VS:=[dp e d.1,.box (dcV 0 n f c a b lo d.c q0 Ke [] []),.box [.bp 0 0],.box [.bp 1 0]]
variable{u:Rd}
theorem Qx(k:u.Wf){c l:List mM}{p e:Nat}(d:p<u.ts.length)(a:gG u c p=.ok l e):p<e/\e<u.ts.length:=by
 rw[gG]at a;split at a
 ·cases a
 ·rename_i t b;have f:(u.tok p).kind≠0:=by
   intro h;have:∀s,c5 (u.tok p) s=false:=fun s=>by
    cases a:c5 (u.tok p) s with
    |false=>rfl
    |true=>exact absurd h (sL a)
   rw[xJ,this,this,this]at b;cases b
  obtain⟨s,i,_⟩:=dv a;obtain⟨q,n⟩:=jG k dc (k.go p _ (bY d) f) i;exact⟨om,n⟩
variable{g:Nat->PR Ty}
theorem vk(ah:u.Wf){p:Nat}(S:ef g u p)(aJ:Good g u p)(l b:Bool)(a:cq)(aA:p<u.ts.length):bV C ca yQ [.bp 0 0,.bp 1 0] [dp u p,.box (dc0 l b a)] (DcS u (kt g u l b a p)):=by
 have aG:=ah.len;refine cv aea (fun _=>Z) ?_;repeat refine ch ?_
 refine nG (k:=2) ah dc aA 0 ?_ (fun G j K=>?_) (fun s M j K=>?_)
 ·exact Z
 ·obtain⟨ba,ap⟩:=jG ah dc aA K;repeat refine ch ?_
  apply dH (T:=fun _=>Vj) (S:=Kh u 0 G l b a q0 q0 q0 Ke [] []) (I:=fun d:Nat×List mM×D=>j<=d.1/\d.1<u.ts.length/\tG d.2.1 d.2.2/\jZ (gG u) u [] j=.ok d.2.1 d.1)
  ·intro A;refine qV u j (u.tok j) [91] (bY ap) 0 ?_ ?_
   ·exact Z
   apply aZ<;>intro e
   ·refine FQ ah (gG u) tdI (tdT 0 G l b a (bW 0) T4) [.box (dcV 0 G l b a .ci q0 q0 q0 Ke [] []),.box [.bp 0 0],.box [.bp 1 0]] 4 oQ Z [2,3] (g0:=[]) (a0:=[]) ap e ⟨.nil,aeN _⟩ (fun aV aF j aW=>⟨aW.1,Nat.le_succ_of_le aW.2⟩) Z Z (fun aF=>by show 4<=5;omega) dc (fun aV aF q2 Q bj aH aM P ak=>T2 ah 0 G l b a Z aV aF q2 Q aH aM P ak) (fun aD aC q2 x aB aU w=>?_) (fun s M q2 bq x y=>?_)
    ·have R:j<=q2:=om;rcases aC with _|⟨av,m⟩
     ·have ar:aD=[]:=aeu aB.1.len.symm;subst ar;exact cw (dB:=Vj) (fU:=Kh u 0 G l b a q0 q0 q0 Ke [] [] (q2,[],.ci)) (.eP 2 [0,1,2,3]) (A (q2,[],.ci) ⟨R,w,.nil,x⟩)
     ·refine rk 4 1 Vj (es:=7) (l:=av::m) Z Z (gk _) ⟨Z,Z,tv⟩ ⟨tv,tv,tv⟩ (by repeat' (first|exact tv|exact fun _=>⟨rfl,by simp⟩|refine And.intro ?_ ?_)) (fun bh=>?_);exact cw (dB:=Vj) (fU:=Kh u 0 G l b a q0 q0 q0 Ke [] [] (q2,aD,.ps bh (0*7) 7 (m.length+1) (aeP (m.length+1) (aeR 0 (av::m))))) (.eP 2 [0,1,2,3]) (A (q2,aD,_) ⟨R,w,by rw[eT _ _ sm];exact .ps aB.1,x⟩)
    ·exact ku (by simp only[kt,K,x]) om
   ·refine cw (dB:=Vj) (fU:=Kh u 0 G l b a q0 q0 q0 Ke [] [] (j,[],.ci)) .eS (A (j,[],.ci) ⟨abL _,ap,.nil,by rw[jZ,if_neg (by rw[e];decide)]⟩)
  ·rintro⟨q1,T,h⟩ ⟨H,F,J,E⟩;have aY:j<=q1:=H;have w:q1<u.ts.length:=F;have aw:tG T h:=J;have R:jZ (gG u) u [] j=.ok T q1:=E;clear H F J E;apply dH (T:=fun d:Kj=>abb d.2.1) (S:=abd u G l b a h) (I:=fun d:Kj=>q1<=d.1/\d.1<u.ts.length/\eZ d.2.2.1 d.c/\oI g u [62,58] zm q1=.ok (d.2.1,d.2.2.1) d.1)
   ·intro A;refine cI u q1 (u.tok q1) [62,58] (bY w) om 0 ?_ (fun e=>?_) (fun e=>?_)
    ·exact Z
    ·have I:=ah.step w e;repeat refine de ?_
     repeat refine ch ?_
     refine S.call (q1+1) om I 0 _ _ ?_ (fun k ay q3 B c=>?_) (fun s M q3 B=>?_)
     ·exact Z
     ·obtain⟨U,W,tn,X,Y,rfl⟩:=c.cZ;obtain⟨ac,i⟩:=S.lt _ _ _ om I B;repeat refine ch ?_
      exact cw (dB:=abb true) (fU:=(abd u G l b a h) (q3,true,k,U,W,tn,X,Y)) .eS (A (q3,true,k,U,W,tn,X,Y) ⟨by show q1<=q3;omega,i,c,by simp only[oI,e,if_true,B,PR.map]⟩)
     ·have aj:∀t0,oI g u [62,58] t0 q1=.bad s M:=fun t0=>by simp only[oI,e,if_true,B,PR.map]
      exact ku (by simp only[kt,K,R,aj]) sm
    ·repeat refine de ?_
     exact cw (dB:=abb false) (fU:=(abd u G l b a h) (q1,false,zm,1,[],[],.ci,.ci)) .eS (A (q1,false,zm,1,[],[],.ci,.ci) ⟨abL _,w,(eZ.mk .nil .nil),by simp only[oI,e,if_false,aet]⟩)
   ·rintro⟨q2,f,O,P,z,r,o,f1⟩ ⟨H,F,J,E⟩;have aX:q1<=q2:=H;have L:q2<u.ts.length:=F;have ab:eZ O (eQ P z r o f1):=J;have af:oI g u [62,58] zm q1=.ok (f,O) q2:=E;clear H F J E;apply dH (T:=fun d:Kj=>abc f d.2.1) (S:=abe u G l b a h (eQ P z r o f1)) (I:=fun d:Kj=>q2<=d.1/\d.1<u.ts.length/\eZ d.2.2.1 d.c/\oI g u [60,58] cV q2=.ok (d.2.1,d.2.2.1) d.1)
    ·intro A;refine cI u q2 (u.tok q2) [60,58] (bY L) om 0 ?_ (fun e=>?_) (fun e=>?_)
     ·exact Z
     ·have I:=ah.step L e;repeat refine de ?_
      repeat refine ch ?_
      refine S.call (q2+1) om I 0 _ _ ?_ (fun k ay q3 B c=>?_) (fun s M q3 B=>?_)
      ·exact Z
      ·obtain⟨U,W,tn,X,Y,rfl⟩:=c.cZ;obtain⟨ac,i⟩:=S.lt _ _ _ om I B;repeat refine ch ?_
       exact cw (dB:=(abc f) true) (fU:=(abe u G l b a h (eQ P z r o f1)) (q3,true,k,U,W,tn,X,Y)) .eS (A (q3,true,k,U,W,tn,X,Y) ⟨by show q2<=q3;omega,i,c,by simp only[oI,e,if_true,B,PR.map]⟩)
      ·have aj:∀t0,oI g u [60,58] t0 q2=.bad s M:=fun t0=>by simp only[oI,e,if_true,B,PR.map]
       exact ku (by simp only[kt,K,R,af,aj]) sm
     ·repeat refine de ?_
      exact cw (dB:=(abc f) false) (fU:=(abe u G l b a h (eQ P z r o f1)) (q2,false,cV,0,[],[],.ci,.ci)) .eS (A (q2,false,cV,0,[],[],.ci,.ci) ⟨abL _,L,(eZ.mk .nil .nil),by simp only[oI,e,if_false,aet]⟩)
    ·rintro⟨q3,n,N,ak,aQ,aL,aP,f2⟩ ⟨H,F,J,E⟩;have ac:q2<=q3:=H;have i:q3<u.ts.length:=F;have ai:eZ N (eQ ak aQ aL aP f2):=J;have au:oI g u [60,58] cV q2=.ok (n,N) q3:=E;clear H F J E;have al:kt g u l b a p=(dI g u [61] q3).map fun k=>⟨0,G,l,b,a,T,if f||n then O else k,if f||n then N else k,k,oe,[],[]⟩:=by simp only[kt,K,R,af,au]
     intro aN;refine gZ ah [61] i aN _ 0 Z (fun Q ad=>?_) (fun Q bf=>?_)
     ·repeat refine ch ?_
      refine S.call (q3+1) om ad 0 _ _ ?_ (fun k ay ax v c=>?_) (fun s M ax v=>?_)
      ·exact Z
      ·obtain⟨ao,am,an,aq,f3,rfl⟩:=c.cZ;obtain⟨az,aR,_,aE⟩:=aJ _ _ _ om ad v;repeat refine ch ?_
       have y:∀(d aO:cH),eZ (if f||n then O else k) d->eZ (if f||n then N else k) aO->rs ⟨0,G,l,b,a,T,if f||n then O else k,if f||n then N else k,k,oe,[],[]⟩ (mR 0 G l b a h d aO (eQ ao am an aq f3) Ke [] []):=fun d aO aI aK=>⟨_,_,_,_,_,aw,aI,aK,c,ZU,rfl⟩;have V:kt g u l b a p=.ok ⟨0,G,l,b,a,T,if f||n then O else k,if f||n then N else k,k,oe,[],[]⟩ ax:=by rw[al];simp only[dI,cu,Q,if_true,v,PR.map]
       cases f with
       |true=>exact Kg V (y _ _ ab ai)
       |false=>
        cases n with
        |true=>exact Kg V (y _ _ ab ai)
        |false=>
         have aa:ct k<4294967296:=om;repeat refine ch ?_
         refine FR (ct k) aa k [.int .i64 (abK ao),.str am,.str an,aq,f3] (abL _) c az (fun d1 ag=>?_);obtain⟨bp,be,br,bm,f4,rfl⟩:=ag.cZ;repeat refine ch ?_
         refine FR (ct k) aa k [.int .i64 (abK ao),.str am,.str an,aq,f3] (abL _) c az (fun d2 ae=>?_);obtain⟨bk,bc,bg,bl,f5,rfl⟩:=ae.cZ;repeat refine ch ?_
         exact Kg V (y _ _ ag ae)
      ·exact ku (by rw[al];simp only[dI,cu,Q,if_true,v,PR.map]) sm
     ·exact ku (by rw[al];simp only[dI,cu,Q,if_false,aet,PR.map]) sm
 ·exact ku (by simp only[kt,K]) sm
variable{v:PR jX}
theorem mF{f:FuncId}{p:Nat}{e:List V}(D:bV C ca f [.bp 0 0,.bp 1 0] [dp u p,.box e] (DcS u v))(k h:Nat)(n:k≠h){σ:VS}{K:cO->VS->Prop}(s:nth σ k=some (dp u p))(F:nth σ h=some (.box e))(H:fu 0 e=true) 
  (w:∀q l i,v=.ok q i->rs q l->K (.ret (.dS [])) ((σ.set k (dp u i)).set h (.box (l.map V.d)))) (G:∀c t i I,v=.bad c t->fW 0 I=true->K (.eH (dt c t)) ((σ.set k (dp u i)).set h I)):bV C ca f [.bp k 0,.bp h 0] σ K:=by
 refine bV.two (dM:=[.bp 0 0,.bp 1 0]) (P:=fun B b a=>fW 0 a=true/\dcK u v B b a) (D.mono fun B J d=>?_) k h n s F Z H Z Z (fun B b a d=>?_)
 ·obtain⟨b,a,L,M,l,q,t⟩:=d;exact⟨b,a,L,M,l,q,q,t⟩
 ·obtain⟨E,d⟩:=d;unfold dcK at d;split at d
  ·obtain⟨rfl,rfl,l,A,rfl⟩:=d;exact w _ l _ Z A
  ·obtain⟨rfl,i,rfl⟩:=d;exact G _ _ i a Z E
def dvK(f:Rd)(i:PR jX)(d:cO)(b:List V):Prop:=match i with
 |.ok h c=>b=xa f c/\∃e,rs h e/\d=.ret (.agg (e.map V.d))
 |.bad a k=>∃c,b=xa f c/\d=.eH (dt a k)
def DvS(e:Rd)(d:PR jX)(c:cO)(b:VS):Prop:=∃a,b=[.box a]/\cM c=true/\fu 0 a=true/\dvK e d c a
variable{m x:Nat}
theorem RG{d:jX}{c:cH}{a:VS}(e:v=.ok d m)(b:rs d c):cU 1 (.ret (.agg (c.map V.d))) (dp u m::a) (DvS u v):=by
 subst e;exact cU.drop 1 Z (by show(fW 1 (dp u m)&&mJ 1 a 0)=true;rw[mJ];rfl) (qW 1 c) (cU.now Z ⟨_,Z,qW 0 c,Z,Z,c,b,Z⟩)
theorem Ck{R:Rd}{q a b:Nat}{tl:VS}(h:v=.bad a b):cU 1 (.eH (dt a b)) (dp R q::tl) (DvS R v):=by
 exact aab
variable{r:Nat->PR Ex}
theorem MN(i:u.Wf){p:Nat}(w:ef g u p)(J:Good g u p)(D:mA cR r u p)(l:p<u.ts.length):bV C ca wS [.bp 0 0] [dp u p] (DvS u (j6 g r u p)):=by
 have L:=i.len;refine cm ?_;refine cI u p (u.tok p) [101,120,112,111,114,116] (bY l) om 0 Z (fun A=>?_) (fun A=>?_)
 ·have b:=i.step l A;refine cI u (p+1) (u.tok (p+1)) [100,101,112,114,101,99,97,116,101,100] (bY b) om 0 ?_ (fun B=>?_) (fun B=>?_)
  ·exact Z
  ·have G:=i.step b B;refine nG (k:=4) i dc G 0 ?_ (fun K f F=>?_) (fun c k f F=>?_)
   ·exact Z
   ·obtain⟨M,t⟩:=jG i dc G F;have hh:og u p=.ok (true,true,K) f:=by simp only[og,A,B,if_true,F,PR.map]
    have e:ef g u (f+1):=⟨fun a E f H=>w.lt a E f om,fun a H=>w.call a om⟩;have n:Good g u (f+1):=fun a E f H=>J a E f om;have h:mA cR r u (f+1):=D.up om;refine cI u f (u.tok f) [116,121,112,101] (bY t) om 0 ?_ (fun h7=>?_) (fun h7=>?_)
    ·exact Z
    ·refine mF (vk i e n true true K (i.step t h7)) 0 2 dc ?_ ?_ Z (fun d I q4 e4 hd=>?_) (fun c k q4 s e4 q=>?_)
     ·exact Z
     ·exact Z
     ·exact Sg
     ·exact XX
    ·refine cI u f (u.tok f) [108,101,116] (bY t) om 0 ?_ (fun h8=>?_) (fun h8=>?_)
     ·exact Z
     ·refine mF (vh i e h true true K (i.step t h8)) 0 2 dc ?_ ?_ Z (fun d I q4 e4 hd=>?_) (fun c k q4 s e4 q=>?_)
      ·exact Z
      ·exact Z
      ·exact Sf
      ·exact XK
     ·refine cI u f (u.tok f) [117,115,101] (bY t) om 0 ?_ (fun h9=>?_) (fun h9=>?_)
      ·exact Z
      ·refine mF (vg i true true K (i.step t h9)) 0 2 dc ?_ ?_ Z (fun d I q4 e4 hd=>?_) (fun c k q4 s e4 q=>?_)
       ·exact Z
       ·exact Z
       ·exact Se
       ·exact XJ
      ·refine eF u f _ (bY t) 0 ?_ ?_
       ·exact Z
       refine fK _ (u.tok f).off 3 ?_;exact XN
   ·exact Ck (by simp only[j6,og,A,B,if_true,F,PR.map])
  ·have hh:og u p=.ok (true,false,[]) (p+1):=by simp only[og,A,B,if_true,if_false,aet]
   have e:ef g u ((p+1)+1):=⟨fun a E f H=>w.lt a E f om,fun a H=>w.call a om⟩;have n:Good g u ((p+1)+1):=fun a E f H=>J a E f om;have h:mA cR r u ((p+1)+1):=D.up om;refine cI u (p+1) (u.tok (p+1)) [116,121,112,101] (bY b) om 0 ?_ (fun h7=>?_) (fun h7=>?_)
   ·exact Z
   ·refine mF (vk i e n true false [] (i.step b h7)) 0 2 dc ?_ ?_ Z (fun d I q4 e4 hd=>?_) (fun c k q4 s e4 q=>?_)
    ·exact Z
    ·exact Z
    ·exact Sg
    ·exact XX
   ·refine cI u (p+1) (u.tok (p+1)) [108,101,116] (bY b) om 0 ?_ (fun h8=>?_) (fun h8=>?_)
    ·exact Z
    ·refine mF (vh i e h true false [] (i.step b h8)) 0 2 dc ?_ ?_ Z (fun d I q4 e4 hd=>?_) (fun c k q4 s e4 q=>?_)
     ·exact Z
     ·exact Z
     ·exact Sf
     ·exact XK
    ·refine cI u (p+1) (u.tok (p+1)) [117,115,101] (bY b) om 0 ?_ (fun h9=>?_) (fun h9=>?_)
     ·exact Z
     ·refine mF (vg i true false [] (i.step b h9)) 0 2 dc ?_ ?_ Z (fun d I q4 e4 hd=>?_) (fun c k q4 s e4 q=>?_)
      ·exact Z
      ·exact Z
      ·exact Se
      ·exact XJ
     ·refine eF u (p+1) _ (bY b) 0 ?_ ?_
      ·exact Z
      refine fK _ (u.tok (p+1)).off 3 ?_;exact XN
 ·have hh:og u p=.ok (false,false,[]) p:=by simp only[og,A,if_false,aet]
  have e:ef g u (p+1):=⟨fun a E f H=>w.lt a E f om,fun a H=>w.call a om⟩;have n:Good g u (p+1):=fun a E f H=>J a E f om;have h:mA cR r u (p+1):=D.up om;refine cI u p (u.tok p) [116,121,112,101] (bY l) om 0 ?_ (fun h7=>?_) (fun h7=>?_)
  ·exact Z
  ·refine mF (vk i e n false false [] (i.step l h7)) 0 2 dc ?_ ?_ Z (fun d I q4 e4 hd=>?_) (fun c k q4 s e4 q=>?_)
   ·exact Z
   ·exact Z
   ·exact Sg
   ·exact XX
  ·refine cI u p (u.tok p) [108,101,116] (bY l) om 0 ?_ (fun h8=>?_) (fun h8=>?_)
   ·exact Z
   ·refine mF (vh i e h false false [] (i.step l h8)) 0 2 dc ?_ ?_ Z (fun d I q4 e4 hd=>?_) (fun c k q4 s e4 q=>?_)
    ·exact Z
    ·exact Z
    ·exact Sf
    ·exact XK
   ·refine cI u p (u.tok p) [117,115,101] (bY l) om 0 ?_ (fun h9=>?_) (fun h9=>?_)
    ·exact Z
    ·refine mF (vg i false false [] (i.step l h9)) 0 2 dc ?_ ?_ Z (fun d I q4 e4 hd=>?_) (fun c k q4 s e4 q=>?_)
     ·exact Z
     ·exact Z
     ·exact Se
     ·exact XJ
    ·refine eF u p _ (bY l) 0 ?_ ?_
     ·exact Z
     refine fK _ (u.tok p).off 3 ?_;exact XN
def mdK(i:Rd)(k:PR (FO×List Nat))(e:cO)(c:List V):Prop:=match k with
 |.ok h d=>c=xa i d/\∃f a,At h.1 f/\FP h.2 a/\e=.ret (.dS [.agg (f.map V.d),.d a])
 |.bad b l=>∃d,c=xa i d/\e=.eH (dt b l)
def MdS(e:Rd)(d:PR (FO×List Nat))(c:cO)(b:VS):Prop:=∃a,b=[.box a]/\cM c=true/\fu 0 a=true/\mdK e d c a
variable{j:PR (FO×List Nat)}
theorem w8{R:Rd}{q a b:Nat}{tl:VS}(h:j=.bad a b):cU 1 (.eH (dt a b)) (dp R q::tl) (MdS R j):=by
 exact aab
theorem E2(w:u.Wf){p:Nat}(n:ef g u p)(s:Good g u p)(c:mA cR r u p)(k:p<u.ts.length)(b:Nat){σ:VS}{K:cO->VS->Prop}(a:nth σ b=some (dp u p)) 
  (i:∀d f q,j6 g r u p=.ok d q->rs d f->K (.ret (.agg (f.map V.d))) (σ.set b (dp u q))) (k2:∀off e q,j6 g r u p=.bad off e->K (.eH (dt off e)) (σ.set b (dp u q))):bV C ca wS [.bp b 0] σ K:=by
 refine bV.one (dM:=[.bp 0 0]) (P:=dvK u (j6 g r u p)) (MN w n s c k) b a Z Z Z (fun A t h=>?_);unfold dvK at h;split at h
 ·rename_i d q e;obtain⟨rfl,f,l,rfl⟩:=h;exact i d f q e l
 ·exact Vp
def aeb:Nat->Bool:=fun a=>aeO a 8||aeO a 19||aeO a 27||aeO a 38||aeO a 44
def aec(b:Rd)(s:cq)(a:Nat×List vY):VS:=[dp b a.1,.box [cn [],.d .ci,.d .ci],.box [cn s,kV 3 2 (a.2.map fF),.d .ci],kO 2 (a.2.map fF)]
def dlT(a:List Nat):Tm:=[(0,.bp 0 0),(2,.bp 1 0),(4,.bp 2 0),(5,kV 4 1 (a.map fun b=>[.int .i64 (abK b)]))]
def dlS(d:Rd)(s:cq)(a:D)(b:Nat×List cH×List Nat):VS:=[dp d b.1,.box [cn [],.d .ci,.d .ci],.box [cn s,.d a,kV 3 31 b.2.1],kO 31 b.2.1,kO 1 (b.2.2.map fun c=>[.int .i64 (abK c)])]
theorem oh.len{l:List jX}{els:List cH}(h:oh l els):els.length=l.length:=by
 exact RZ
theorem oh.snoc{l:List jX}{els:List cH}{p:jX}{a:cH}(h:oh l els)(hp:rs p a):oh (l++[p]) (els++[a]):=by
 exact aam
def ZV(n:Nat):cH:=[.int .i64 (abK n)]
variable{o:Nat->Nat}
theorem abG(b:Nat)(or:List Nat)(c:Nat)(d:o m=x):some (V.ms x 1 0 ((or.map fun a=>([.int .i64 (abK a)]:cH)).length+1+1) ((or.map fun a=>([.int .i64 (abK a)]:cH)).length+1+1))=some (gW o (kV m 1 (((b::or)++[c]).map fun a=>[.int .i64 (abK a)]))):=by
 subst d;rw[aeQ,nB];exact congrArg some (li _ 1 (ZV b) (or.map ZV) (ZV c))
theorem Z7(a:Nat)(or:List Nat)(c:Nat):some (cN.row 1 (aeP ((or.map fun b=>([.int .i64 (abK b)]:cH)).length+1) (aeR 0 (aeU (fun d=>aeU V.d d) (ZV a::or.map fun b=>([.int .i64 (abK b)]:cH))))++[(ZV c).map V.d]))=some (dF o (kO 1 (((a::or)++[c]).map fun b=>[.int .i64 (abK b)]))):=by
 rw[aeQ];exact jQ o 1 (ZV a) (or.map ZV) (ZV c)
theorem Z6(s:cq)(a:D)(d0:cH)(b:List cH)(c:cH)(d:o m=x):some (cN.box [cn s,.d a,.ms x 31 0 (b.length+1+1) (b.length+1+1)])=some (dF o (.box [cn s,.d a,kV m 31 ((d0::b)++[c])])):=by
 subst d;show _=some (cN.box [cn s,.d a,gW o (kV m 31 ((d0::b)++[c]))]);rw[nB,<-li _ 31 d0 b c]
theorem abH(s:cq)(a:D)(l:List cH)(b:Nat.blt x m=true):fW m (.box [cn s,.d a,kV x 31 l])=true:=by
 show(true&&(true&&(bd m (kV x 31 l)&&true)))=true;rw[kZ 31 _ b];rfl
theorem Cg(e:u.Wf){lo:Nat}(I:∀p q a,lo<=p->p<u.ts.length->g p=.ok q a->p<a/\a<u.ts.length)(ab:∀p q a,lo<=p->p<u.ts.length->r p=.ok q a->p<a/\a<u.ts.length){p a:Nat}{K:jX}(aj:lo<=p)(S:p<u.ts.length)(h:j6 g r u p=.ok K a):p<a/\a<u.ts.length:=by
 have ag:∀{s:cq} {an p a},p<u.ts.length->cu u [s] p=.ok an a->p<a/\a<u.ts.length:=fun hp h=>by
  have e1:=cL _ _ _ h;have e2:=da e _ _ _ hp h;exact XP
 have F:∀{k:Type} {N:Nat->PR k} {s:cq} {p a:Nat} {q:k},(∀d l,p<d->d<u.ts.length->N d=.ok q l->d<l/\l<u.ts.length)->p<u.ts.length->dI N u s p=.ok q a->p<a/\a<u.ts.length:=by
  intro k N s p a q y hp h;rw[dI]at h;split at h
  ·cases h
  ·rename_i ap q1 z;obtain⟨w,Y⟩:=ag hp z;obtain⟨ae,K⟩:=y _ _ w Y h;exact⟨om,K⟩
 have U:∀{s:cq} {t0:Ty} {p a:Nat} {q:Bool×Ty},lo<=p->p<u.ts.length->oI g u s t0 p=.ok q a->p<=a/\a<u.ts.length:=by
  intro s t0 p a q i hp h;rw[oI]at h;split at h
  ·rename_i n;obtain⟨ac,E,_⟩:=dv h;obtain⟨w,Y⟩:=I _ _ _ om (e.step hp n) E;exact⟨om,Y⟩
  ·exact NC
 have o:∀{k:Type} {step:k->Nat->PR k} {w f:k} {p a:Nat},(∀w p f a,lo<=p->p<u.ts.length->step w p=.ok f a->p<a/\a<u.ts.length)->lo<=p->p<u.ts.length->jZ step u w p=.ok f a->p<=a/\a<u.ts.length:=by
  intro k step w f p a n i hp h;rw[jZ]at h;split at h
  ·rename_i M;obtain⟨ae,K⟩:=T5 e n _ _ _ _ _ om (e.step hp M) h;exact⟨om,K⟩
  ·exact NC
 have af:∀w p f a,lo<=p->p<u.ts.length->ia g u w p=.ok f a->p<a/\a<u.ts.length:=by
  intro w p f a i hp h;rw[ia]at h;split at h
  ·cases h
  ·rename_i s q1 n;obtain⟨ae,K⟩:=jG e dc hp n;split at h
   ·rename_i M;obtain⟨ac,E,_⟩:=dv h;obtain⟨q,ah⟩:=I _ _ _ om (e.step K M) E;exact⟨om,ah⟩
   ·cases h;exact⟨ae,K⟩
 rw[j6]at h;split at h
 ·cases h
 ·rename_i ai Q t;have T:p<=Q/\Q<u.ts.length:=by
   rw[og]at t;split at t
   ·rename_i V;have J:=e.step S V;split at t
    ·rename_i R;have X:=e.step J R;obtain⟨s,n,_⟩:=dv t;obtain⟨w,Y⟩:=jG e dc X n;exact⟨om,Y⟩
    ·cases t;exact⟨om,J⟩
   ·cases t;exact⟨abL _,S⟩
  obtain⟨T,H⟩:=T;split at h
  ·rename_i D;have i:=e.step H D;rw[kt]at h;split at h
   ·cases h
   ·rename_i al q1 e1;obtain⟨j,A⟩:=jG e dc i e1;split at h
    ·cases h
    ·rename_i v q2 e2;obtain⟨m,G⟩:=o (fun w p f a _ hp h=>Qx e hp h) om A e2;split at h
     ·cases h
     ·rename_i q q3 P;obtain⟨x,O⟩:=U om G P;split at h
      ·cases h
      ·rename_i ah q4 ad;obtain⟨ak,aa⟩:=U om O ad;obtain⟨ac,B,_⟩:=dv h;obtain⟨W,C⟩:=F (fun d l L b c=>I _ _ _ om b c) aa B;exact⟨om,C⟩
  ·split at h
   ·rename_i D;have i:=e.step H D;rw[mB]at h;split at h
    ·cases h
    ·rename_i al q1 e1;obtain⟨j,A⟩:=fS e i e1;split at h
     ·cases h
     ·rename_i v q2 e2;obtain⟨m,G⟩:=o af om A e2;split at h
      ·cases h
      ·rename_i ac q3 P;obtain⟨x,O⟩:=F (fun d l L b c=>I _ _ _ om b c) G P;obtain⟨q,B,_⟩:=dv h;obtain⟨W,C⟩:=F (fun d l L b c=>ab _ _ _ om b c) O B;exact⟨om,C⟩
   ·split at h
    ·rename_i D;have i:=e.step H D;rw[kQ]at h;split at h
     ·cases h
     ·rename_i ao q1 e1;obtain⟨j,A⟩:=fS e i e1;split at h
      ·cases h
      ·rename_i am q2 e2;obtain⟨m,G⟩:=F (fun d l _ b c=>(ve e).lt _ _ _ b c) A e2;obtain⟨q,B,_⟩:=dv h;obtain⟨W,C⟩:=F (fun d l _ b c=>(ve e).lt _ _ _ b c) G B;exact⟨om,C⟩
    ·cases h
variable{z:D} {y:List jX}
theorem OD{s:cq}{is:List vY}(c:j=.ok (⟨s,is,y⟩,[]) m)(b:wY is z)(a:oh y []):cU 1 (.ret (.dS [.agg [cn s,.d z,.d .ci],.d .ci])) [dp u m,.box [cn s,.d z,.d .ci],.box [cn s,.d z,.d .ci],.gone,.gone] (MdS u j):=by
 cases a;subst c;exact cU.drop 1 Z Z Z (cU.now Z ⟨_,Z,Z,Z,Z,[.str s,z,.ci],.ci,⟨z,.ci,b,.nil,Z⟩,.nil,Z⟩)
theorem OE{s:cq}{is:List vY}{d0:cH}{a:List cH}{or:List Nat}(e:j=.ok (⟨s,is,y⟩,x::or) m)(d:wY is z)(c:oh y (d0::a)):cU 1 (.ret (.dS [.agg [cn s,.d z,kV 3 31 (d0::a)],kV 4 1 ((x::or).map fun b=>[.int .i64 (abK b)])])) [dp u m,.box [cn s,.d z,kV 3 31 (d0::a)],.box [cn s,.d z,kV 3 31 (d0::a)],kO 31 (d0::a),kO 1 ((x::or).map fun b=>[.int .i64 (abK b)])] (MdS u j):=by
 subst e;refine cU.freeze 3 (es:=31) (l:=d0::a) Z (gk _) (by repeat' (first|exact tv|exact fun _=>⟨rfl,by simp⟩|exact fun e=>absurd (show(4:Nat)=3 from e) dc|refine And.intro ?_ ?_)) (fun i=>?_);refine cU.freeze 4 (es:=1) (l:=(x::or).map fun b=>[.int .i64 (abK b)]) Z (gk _) (by repeat' (first|exact tv|exact fun _=>⟨rfl,by simp⟩|refine And.intro ?_ ?_)) (fun h=>?_);refine cU.forget 1 (cU.forget 2 ?_);refine cU.drop 1 Z Z Z (cU.now Z ⟨_,Z,Z,Z,Z,[.str s,z,.ps i (0*31) 31 (a.length+1) (aeP (a.length+1) (aeR 0 (d0::a)))],.ps h (0*1) 1 ((or.map fun b=>([.int .i64 (abK b)]:cH)).length+1) (aeP ((or.map fun b=>([.int .i64 (abK b)]:cH)).length+1) (aeR 0 ((x::or).map fun b=>[.int .i64 (abK b)]))),⟨z,_,d,?_,Z⟩,?_,Z⟩)
 ·rw[eT _ _ sm];exact .ps c (abL _)
 ·rw[eT _ _ sm];exact .ps
theorem adv{c n a:Nat}(e:c<=65537)(d:n<=1)(b:a<=2000):(c+n)*a<=fy/\c+n<=fy:=by
 unfold fy;constructor
 ·calc (c+n)*a<=65538*2000:=Nat.mul_le_mul om b
   _<=_:=dc
 ·omega
theorem abf(s:cq)(b:vY)(a:List vY)(c:vY)(d:o m=x):some (cN.box [cn s,.ms x 2 0 ((a.map fF).length+1+1) ((a.map fF).length+1+1),.d .ci])=some (dF o (.box [cn s,kV m 2 (((b::a)++[c]).map fF),.d .ci])):=by
 subst d;rw[aeQ];show _=some (cN.box [cn s,gW o (kV m 2 ((fF b::a.map fF)++[fF c])),.d .ci]);rw[nB,<-li _ 2 (fF b) (a.map fF) (fF c)]
theorem acX(s:cq)(l:List vY)(a:Nat.blt x m=true):fW m (.box [cn s,kV x 2 (l.map fF),.d .ci])=true:=by
 show(true&&(bd m (kV x 2 (l.map fF))&&true))=true;rw[kZ 2 _ a];rfl
theorem abg(b:vY)(a:List vY)(c:vY):some (cN.row 2 (aeP ((a.map fF).length+1) (aeR 0 (aeU (fun d=>aeU V.d d) (fF b::a.map fF)))++[(fF c).map V.d]))=some (dF o (kO 2 (((b::a)++[c]).map fF))):=by
 rw[aeQ];exact jQ o 2 (fF b) (a.map fF) (fF c)
theorem Qy{R:Rd}(w:R.Wf)(I:R.Nm)(H:R.ts.length<=65537){p:Nat}(ht:ef g R p)(hg:Good g R p)(hex:mA cR r R p)(z:p<R.ts.length):bV C ca to [.bp 0 0] [dp R p] (MdS R (tQ g r R p)):=by
 have y:=w.len;refine cv aeb (fun _=>Z) ?_;intro v;refine gZ w [109,111,100,117,108,101] z v _ 0 Z (fun T V=>?_) (fun T ab=>?_)
 ·refine(xO w I H).call (p+1) V 0 ?_ (fun s q U=>?_) (fun off er q U=>?_)
  ·exact Z
  ·obtain⟨ad,x⟩:=(xO w I H).lt _ _ _ V U;have hM:tQ g r R p=match fT R R.ts.length [] q with
     |.bad ag e=>.bad ag e
     |.ok k q1=>(ib g r R R.ts.length [] [] q1).map fun c=>(⟨s,k,c.1⟩,c.2):=by
    simp only[tQ,dI,cu,T,if_true,U];rfl
   refine cD (dB:=[(0,.bp 0 0),(2,.bp 1 0),(4,.bp 2 0),(5,.d .ci)]) ?_;refine cd.gone ?_;refine cd.iter (fun _:Nat×List vY=>[(0,.bp 0 0),(2,.bp 1 0),(4,.bp 2 0),(5,.d .ci)]) (aec R s) (fun c=>R.ts.length-c.1)
    (fun c=>q<=c.1/\c.1<R.ts.length/\c.2.length<=c.1/\∃t,R.ts.length-c.1<=t/\fT R R.ts.length [] q=fT R t c.2 c.1) ?_ (q,[]) ⟨abL _,x,aeN _,_,by show R.ts.length-q<=R.ts.length;omega,rfl⟩
   rintro⟨q1,k⟩ ⟨D,A,F,t,B,E⟩;have ac:q<=q1:=D;have n:q1<R.ts.length:=A;have X:k.length<=q1:=F;have ai:R.ts.length-q1<=t:=B;have l:fT R R.ts.length [] q=fT R t k q1:=E;clear D A F B E;obtain⟨t,rfl⟩:∃O,t=O+1:=⟨t-1,om⟩;rw[fT]at l;refine cI R q1 (R.tok q1) [105,109,112,111,114,116] (bY n) om 0 Z (fun Q=>?_) (fun Q=>?_)
   ·have J:=w.step n Q;rw[if_pos Q]at l;refine(xO w I H).call (q1+1) J 0 ?_ (fun G q3 K=>?_) (fun off er q3 K=>?_)
    ·exact Z
    ·obtain⟨af,j⟩:=(xO w I H).lt _ _ _ J K;intro aa;refine gZ w [97,115] j aa _ 0 ?_ (fun S Y=>?_) (fun S ab=>?_)
     ·exact Z
     ·refine pu w Y 0 ?_ (fun a f P=>?_) (fun off er f P=>?_)
      ·exact Z
      ·obtain⟨ae,M⟩:=fS w Y P;have h:iu R (q1+1)=.ok ⟨G,a⟩ f:=by simp only[iu,K,dI,cu,S,if_true,P,PR.map]
       rw[h]at l;intro ah;rcases k with _|⟨i,d⟩
       ·refine a6 Z (a6 ⟨aev Z,aev Z⟩ (a7 Z ?_));exact⟨(f,[⟨G,a⟩]),⟨by show q<=f;omega,M,by show 1<=f;omega,t,by show R.ts.length-f<=t;omega,l⟩,by show R.ts.length-f<R.ts.length-q1;omega,.pick 1 [0,1,2,5] ⟨Z,Z,Z,Z,tv⟩ Z Z Z Z Z dc ⟨Z,Z,Z,Z,Z,Z,lj _ 2 [.str G,.str a],gH _ _ _,tv⟩,Z,Z⟩
       ·have m:(d.map fF).length+1<=4294967296:=by simp only[aeM,List.length_map]at X⊢;omega
        refine a6 Z (a6 ⟨Z,Z,by simp,abL _,rB m (abL _) (aev Z)⟩ (a7 Z (a7 (lk _) ?_)));exact⟨(f,(i::d)++[(⟨G,a⟩:vY)]),⟨by show q<=f;omega,M,by show((i::d)++[(⟨G,a⟩:vY)]).length<=f;simp only[List.length_append,aeM,List.length_nil]at X⊢;omega,t,by show R.ts.length-f<=t;omega,l⟩,by show R.ts.length-f<R.ts.length-q1;omega,.pick 1 [0,1,2,5] ⟨Z,Z,Z,Z,tv⟩ Z Z Z Z Z dc ⟨Z,Z,Z,Z,abf s i d ⟨G,a⟩ Z,acX _ _ Z,abg i d ⟨G,a⟩,gH _ _ _,tv⟩,Z,Z⟩
      ·have h:iu R (q1+1)=.bad off er:=by simp only[iu,K,dI,cu,S,if_true,P,PR.map]
       exact w8 (by rw[hM,l,h])
     ·have h:iu R (q1+1)=.bad (R.tok q3).off 3:=by simp only[iu,K,dI,cu,S,if_false,aet,PR.map]
      exact w8 (by rw[hM,l,h])
    ·have h:iu R (q1+1)=.bad off er:=by simp only[iu,K]
     exact w8 (by rw[hM,l,h])
   ·rw[if_neg (by rw[Q];decide)]at l;rw[l]at hM;dsimp only at hM;rcases k with _|⟨i,d⟩
    ·refine cd.gone ?_;refine cw (dB:=dlT []) (fU:=dlS R s .ci (q1,[],[])) .eS ?_;refine cd.iter (fun c:Nat×List cH×List Nat=>dlT c.2.2) (dlS R s .ci) (fun c=>R.ts.length-c.1)
      (fun c=>q1<=c.1/\c.1<R.ts.length/\c.2.1.length<=c.1/\c.2.2.length=c.2.1.length/\∃t ds,R.ts.length-c.1<=t/\oh ds c.2.1/\ib g r R R.ts.length [] [] q1=ib g r R t ds c.2.2 c.1) ?_ (q1,[],[]) ⟨abL _,n,aeN _,rfl,_,[],by show R.ts.length-q1<=R.ts.length;omega,.nil,rfl⟩
     rintro⟨q2,els,os⟩ ⟨D,A,F,B,f2,ds,E,L,N⟩;have J:q1<=q2:=D;have F5:q2<R.ts.length:=A;have Bm:els.length<=q2:=F;have Vm:os.length=els.length:=B;have u:R.ts.length-q2<=f2:=E;have Z5:oh ds els:=L;have hd:ib g r R R.ts.length [] [] q1=ib g r R f2 ds os q2:=N;clear D A F B E L N;obtain⟨f2,rfl⟩:∃O,f2=O+1:=⟨f2-1,om⟩;rw[ib]at hd;refine eF R q2 _ (bY F5) 0 Z ?_;apply aZ<;>intro h6
     ·exact X6
     ·have XC:(R.tok q2).kind=0:=l3 h6;rw[if_neg (by rw[XC];decide)]at hd;rcases els with _|⟨d0,dr⟩
      ·obtain rfl:os=[]:=aeu Vm;exact OD (is:=[]) (by simp only[hM,hd,PR.map]) .nil Z5
      ·obtain⟨o0,or,rfl⟩:∃a b,os=a::b:=by cases os with
        |nil=>simp at Vm
        |cons a b=>exact⟨a,b,rfl⟩
       refine OE (is:=[]) (by simp only[hM,hd,PR.map]) .nil Z5
    ·refine rk 3 2 [(0,.bp 0 0),(2,.bp 1 0),(4,.bp 2 0),(5,.d .ci)] (es:=2) (l:=(i::d).map fF) Z Z (gk _) ⟨Z,Z,Z,Z,tv⟩ ⟨tv,tv,tv,tv,tv⟩ ⟨tv,fun _=>⟨Z,by simp⟩,tv,tv⟩ (fun b=>?_);refine cd.gone ?_;refine cw (dB:=dlT []) (fU:=dlS R s (.ps b (0*2) 2 ((d.map fF).length+1) (aeP ((d.map fF).length+1) (aeR 0 ((i::d).map fF)))) (q1,[],[])) .eS ?_;refine cd.iter (fun c:Nat×List cH×List Nat=>dlT c.2.2) (dlS R s (.ps b (0*2) 2 ((d.map fF).length+1) (aeP ((d.map fF).length+1) (aeR 0 ((i::d).map fF))))) (fun c=>R.ts.length-c.1)
      (fun c=>q1<=c.1/\c.1<R.ts.length/\c.2.1.length<=c.1/\c.2.2.length=c.2.1.length/\∃t ds,R.ts.length-c.1<=t/\oh ds c.2.1/\ib g r R R.ts.length [] [] q1=ib g r R t ds c.2.2 c.1) ?_ (q1,[],[]) ⟨abL _,n,aeN _,rfl,_,[],by show R.ts.length-q1<=R.ts.length;omega,.nil,rfl⟩
     rintro⟨q2,els,os⟩ ⟨D,A,F,B,f2,ds,E,L,N⟩;have J:q1<=q2:=D;have F5:q2<R.ts.length:=A;have Bm:els.length<=q2:=F;have Vm:os.length=els.length:=B;have u:R.ts.length-q2<=f2:=E;have Z5:oh ds els:=L;have hd:ib g r R R.ts.length [] [] q1=ib g r R f2 ds os q2:=N;clear D A F B E L N;obtain⟨f2,rfl⟩:∃O,f2=O+1:=⟨f2-1,om⟩;rw[ib]at hd;refine eF R q2 _ (bY F5) 0 Z ?_;apply aZ<;>intro h6
     ·exact X6
     ·have XC:(R.tok q2).kind=0:=l3 h6;rw[if_neg (by rw[XC];decide)]at hd;rcases els with _|⟨d0,dr⟩
      ·obtain rfl:os=[]:=aeu Vm;exact OD (is:=(i::d)) (by simp only[hM,hd,PR.map]) (by rw[eT _ _ sm];exact .ps sm) Z5
      ·obtain⟨o0,or,rfl⟩:∃a b,os=a::b:=by cases os with
        |nil=>simp at Vm
        |cons a b=>exact⟨a,b,rfl⟩
       refine OE (is:=(i::d)) (by simp only[hM,hd,PR.map]) (by rw[eT _ _ sm];exact .ps sm) Z5
  ·exact w8 (by simp only[tQ,dI,cu,T,if_true,U])
 ·exact w8 (by simp only[tQ,dI,cu,T,if_false,aet])
def Ex.k:Ex->Nat|.mk a _ _ _ _ _ _ _=>a
def Ex.kids:Ex->List Ex|.mk _ _ _ _ _ _ _ a=>a
def k7:Ex->List Ty
 |.mk b _ _ _ _ types a _=>types++(if b=8 then a.map hZ.ty else [])
mutual
def cP:Ex->Nat
 |.mk k _ _ _ _ types labels kids=>1+cy (types++(if k=8 then labels.map hZ.ty else []))+cQ kids
def cQ:List Ex->Nat
 |[]=>0
 |e::l=>cP e+cQ l
end
mutual
def mG:Ex->Nat
 |.mk _ _ _ _ _ _ _ kids=>gu kids+1
def gu:List Ex->Nat
 |[]=>0
 |e::l=>max (mG e) (gu l)
end
theorem fJ(a:Ex):cP a=1+cy (k7 a)+cQ a.kids:=by cases a;rw[cP,k7,Ex.kids]
theorem Av(a:Ex):mG a=gu a.kids+1:=by cases a;rw[mG,Ex.kids]
theorem gP(a:Ex):0<cP a:=by rw[fJ];omega
theorem nH(a b:List Ex):cQ (a++b)=cQ a+cQ b:=by
 induction a with
 |nil=>simp[cQ]
 |cons d a c=>simp only[List.cons_append,cQ,c];omega
theorem Kk(a b:List Ex):gu (a++b)=max (gu a) (gu b):=by
 induction a with
 |nil=>simp[gu]
 |cons d a c=>simp only[List.cons_append,gu,c];omega
theorem ju(l:List Ex):l.length<=cQ l:=by
 induction l with
 |nil=>simp
 |cons b l a=>have:=gP b;simp only[aeM,cQ];omega
theorem j7{l:List Ex}{t:Ex}(h:t∈l):cP t<=cQ l:=by
 induction l with
 |nil=>simp at h
 |cons b l a=>
  rcases List.mem_cons.1 h with rfl|h
  ·simp only[cQ];omega
  ·have:=a h;simp only[cQ];omega
theorem Qz(n:Nat):∀a:Ex,cP a<=n->mG a<=cP a:=by
 induction n with
 |zero=>intro a f;have:=gP a;omega
 |succ n d=>
  intro a f;rw[fJ]at f⊢;rw[Av];have:∀b:List Ex,cQ b<=n->gu b<=cQ b:=by
   intro b;induction b with
   |nil=>intro _;simp[gu]
   |cons h b c=>
    intro e;simp only[cQ,gu]at e⊢;have:=d h om;have:=c om;omega
  have:=this _ (by omega:cQ a.kids<=n);omega
theorem DB(l:List Ex):gu l<=cQ l:=by
 induction l with
 |nil=>simp[gu]
 |cons b l a=>have:=Qz _ b (abL _);simp only[gu,cQ];omega
theorem zs{l:List Ex}(a:m<l.length):gu (l.take (m+1))=max (gu (l.take m)) (mG l[m]):=by
 rw[List.take_add_one,aeS a,Kk];simp[gu]
theorem tU{l:List Ex}(a:m<l.length):cQ (l.take (m+1))=cQ (l.take m)+cP l[m]:=by
 rw[List.take_add_one,aeS a,nH];simp[cQ]
theorem py(l:List Ex)(a:Nat):cQ (l.take a)<=cQ l:=by
 have b:=nH (l.take a) (l.drop a);rw[List.take_append_drop]at b;omega
theorem jt.get{l:List Ex}{els:List cH}(h:jt l els){i:Nat}(hi:i<l.length):∃d,els[i]?=some d/\je l[i] d:=by
 exact NH
theorem je.abh{e:Ex}{h n f:cq}{a:Int}{d b:D}(c:je e [.int .i64 (abK m),.str h,.str n,.str f,.int .i64 a,z,d,b]):fR e.kids b/\e.k=m:=by
 cases c with|mk _ _ c=>exact⟨c,rfl⟩
theorem HK(n:Nat)(L:∀(t:Ex) (h:cH),cP t<=n->je t h->∀{w:VS} {M:cO->VS->Prop},M (.ret (bW (mG t))) w->bV C ca lC [.agg (h.map V.d)] w M) 
  (t:Ex) (h:cH) (j:cP t<=n+1) (v:n<4294967295) (i:je t h):bV C ca lC [.agg (h.map V.d)] [] fun Y s=>s=[]/\Y=.ret (bW (mG t)):=by
 obtain⟨o,r,B,G,l,I,J,m,rfl⟩:=i.eight;have R:=fJ t;refine cm ?_;rw[Av];have q:=i.abh.1;have k:cQ t.kids<=n:=om;generalize t.kids=a at q k;have N:=ju a;cases q with
 |nil=>
  refine cd.loop ?_;refine a8 0 ⟨Z,Z⟩
 |ps U=>
  rename_i F E c d;have p:=U.len;refine cd.less (dB:=[(3,bW 0),(7,.d (.ps F E 8 c d)),(8,bW a.length),(9,bW 0)]) ⟨Z,Z,int_eq (by rw[p]),Z,tv⟩ ?_;refine cd.iter (fun e:Nat=>[(3,bW (gu (a.take e))),(7,.d (.ps F E 8 c d)),(8,bW a.length),(9,bW e)]) (fun _=>[.box [bW o,cn r,cn B,cn G,.d (.int .i64 l),.d I,.d J,.d (.ps F E 8 c d)]]) (fun e=>a.length-e) (fun e=>e<=a.length) ?_ 0 (aeN _);intro e u;apply aZ<;>intro A
  ·have b:e<a.length:=ee A;obtain⟨h,K,f⟩:=U.get b;refine bZ Z ?_;obtain⟨x,g,P,Q,H,W,T,O,rfl⟩:=f.eight;refine cc _ (by rw[ck];exact K) ?_;have X:=j7 (List.getElem_mem b);refine L a[e] _ om f ?_;refine⟨e+1,b,iK,.drop 1 ⟨int_eq ?_,Z,Z,int_eq (cp om),tv⟩ Z Z Z Z Z Z Z,Z,Z⟩;rw[zs b];exact Fe
  ·have b:a.length<=e:=dq A;rw[aeT b];have S:=DB a;refine a8 0 ⟨Z,congrArg cO.ret (congrArg V.d (congrArg (D.int .i64) (cp om)))⟩
theorem Kl:∀(d:Nat) (a:Ex) (c:cH),d<4294967295->cP a<=d->je a c->∀{b:VS} {f:cO->VS->Prop},f (.ret (bW (mG a))) b->bV C ca lC [.agg (c.map V.d)] b f:=by
 intro d;induction d with
 |zero=>intro a c _ p;have:=gP a;omega
 |succ d l=>
  intro a c B p e b f i;obtain⟨D,E,q,t,n,w,A,s,rfl⟩:=e.eight;exact cC (HK d (fun a c k h=>l a c om k h) a _ p om e) Z Z i
theorem qi.get{l:List hZ}{els:List cH}(h:qi l els){i:Nat}(hi:i<l.length):∃d,els[i]?=some (Ms l[i] d)/\eZ l[i].ty d:=by
 exact NH
def ky(f:Nat)(h n e:cq)(a:Int)(c d b:D):List V:=[bW f,cn h,cn n,cn e,.d (.int .i64 a),.d c,.d d,.d b]
def Vl(l:List hZ):List Ty:=l.map hZ.ty
theorem T8{l:List hZ}(h:m<l.length):Vl (l.take (m+1))=Vl (l.take m)++[l[m].ty]:=by
 unfold Vl;exact XV
def acY:Nat->Bool:=fun a=>aeO a 22
def aed(c:List V)(a:List cH):VS:=[.box c,kO 5 a]
theorem QA(J:Nat)(aa n l:cq)(E:Int)(O X Q:D)(types:List Ty)(a:List hZ)(R:fA types O)(u:eR a X)(x:J=8->types=[])(ac:types.length+a.length<4294967296):
  bV C ca sH [.agg (ky J aa n l E O X Q)] [] fun q W=>W=[]/\cM q=true/\∃v,Ii (types++(if J=8 then Vl a else [])) v/\q=.ret (.d v):=by
 refine cv acY (fun _=>Z) ?_;refine cj ?_;by_cases p:J=8
 ·have h:decide (abK J=8)=true:=by rw[p];exact decide_eq_true rfl
  have:=x p;subst this;rw[if_pos p];have V:O=.ci:=by
   cases R with
   |nil=>rfl
   |ps o k=>cases o;exact absurd rfl k
  subst V;refine cg h ?_;cases u with
  |nil=>
   refine cd.loop ?_;refine a8 0 ⟨Z,Z,.ci,.nil,Z⟩
  |ps S=>
   rename_i N L d e;have T:=S.len;refine cd.gone ?_;refine cd.less (dB:=[(3,kV 1 5 []),(13,.d (.ps N L 8 d e)),(14,bW a.length),(15,bW 0)]) ⟨Z,Z,int_eq (by rw[T]),Z,tv⟩ ?_;refine cd.iter (fun l:Nat×List cH=>[(3,kV 1 5 l.2),(13,.d (.ps N L 8 d e)),(14,bW a.length),(15,bW l.1)]) (fun ab=>aed (ky J aa n l E .ci (.ps N L 8 d e) Q) ab.2) (fun l=>a.length-l.1)
    (fun l=>l.1<=a.length/\dz (Vl (a.take l.1)) l.2) ?_ (0,[]) ⟨aeN _,by exact .nil⟩
   rintro⟨B,i⟩ ⟨Y,b⟩;have Y:B<=a.length:=Y;have b:dz (Vl (a.take B)) i:=b;have H:=b.len;rw[Vl,List.length_map,List.length_take]at H;apply aZ<;>intro m
   ·have c:B<a.length:=ee m;obtain⟨v,y,G⟩:=S.get c;obtain⟨s,A,tn,t,w,rfl⟩:=G.cZ;have f:dz (Vl (a.take (B+1))) (i++[[.int .i64 (abK s),.str A,.str tn,t,w]]):=by rw[T8 c];exact b.snoc G
    refine bZ Z ?_;refine cc (Ms a[B] _) (by rw[ck];exact y) ?_;rcases i with _|⟨j,q⟩
    ·intro r;refine a6 Z (a6 ⟨aev Z,aev Z⟩ ?_);refine⟨(B+1,_),⟨c,f⟩,iK,?_,Z,Z⟩;exact .pick 1 [0,3] ⟨Z,Z,Z,int_eq (cp om),tv⟩ Z Z Z Z Z dc ⟨Z,Z,lj _ 5 [.int .i64 (abK s),.str A,.str tn,t,w],gH _ _ _,tv⟩
    ·intro r;have U:q.length+1<=4294967296:=by simp only[aeM]at H;omega
     refine a6 Z (a6 ⟨Z,Z,by simp,abL _,xY U⟩ ?_);refine a7 Z (a7 (fG (q.length+1)) ?_);refine⟨(B+1,_),⟨c,f⟩,iK,?_,Z,Z⟩;exact .pick 1 [0,3] ⟨congrArg some (li 3 5 j q [.int .i64 (abK s),.str A,.str tn,t,w]),Z,Z,int_eq (cp om),tv⟩ Z Z Z Z Z dc ⟨Z,Z,jQ _ 5 j q [.int .i64 (abK s),.str A,.str tn,t,w],gH _ _ _,tv⟩
   ·have c:a.length<=B:=dq m;rw[aeT c]at b;rcases i with _|⟨j,q⟩
    ·have M:Vl a=[]:=aeu b.len.symm;refine a8 0 ⟨Z,Z,.ci,by rw[M];exact .nil,Z⟩
    ·exact jw 0 (q.length+1) Z Z b
 ·have h:decide (abK J=8)=false:=decide_eq_false fun j=>p (by simp only[Int.ofNat_eq_natCast]at j;omega);rw[if_neg p,List.append_nil];cases R with
  |nil=>
   refine a7 h ?_;refine a8 0 ⟨Z,Z,.ci,.nil,Z⟩
  |ps o k=>
   rename_i ae ad z F;cases F with
   |nil=>exact absurd rfl k
   |cons P K=>
    have g:=o.len;have I:K.length+1<4294967296:=by simp only[aeM]at g;omega
    refine a6 Z (a6 ⟨Z,Z,abL _,abL _,vZ P K I⟩ ?_);refine a7 Z (a7 Z ?_);refine a7 h ?_;refine jw (els:=P::K) 1 _ sm ?_ (by simpa using o);exact Z
theorem Km(f:Ex)(d:cH)(n:je f d)(w:∀e l k i c types a b,f=.mk e l k i c types a b->e=8->types=[])(F:cy (k7 f)<4294967296)(h:∀e l k i c types a b,f=.mk e l k i c types a b->types.length+a.length<4294967296){σ:VS}{K:cO->VS->Prop}(s:∀d,Ii (k7 f) d->K (.ret (.d d)) σ):bV C ca sH [.agg (d.map V.d)] σ K:=by
 cases n with
 |mk p t E=>
  rename_i e l k i c types a b A B q;exact bV.closed (P:=fun D=>∃d,Ii (types++(if e=8 then Vl a else [])) d/\D=.ret (.d d)) (QA e l k i c A B q types a p t (w _ _ _ _ _ _ _ _ Z) (h _ _ _ _ _ _ _ _ Z)) Z (fun D ⟨d,G,f⟩=>by rw[f];exact s d G)
end Go.Proofs.YtpejealjkmhkgaaGreatDoor
