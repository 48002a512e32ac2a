/- Part of the proof. -/
import Derived.Test.YtpejealjkmhkgaaGreatDoorKBk
set_option linter.all false
set_option maxHeartbeats 16000000
set_option maxRecDepth 100000
open Bool renaming false_eq_true->YL
open Nat renaming le_refl->YM
namespace Go.Proofs.YtpejealjkmhkgaaGreatDoor
open Go.AM Go.VM
def j2(c:Nat)(b n:List UInt8)(a f:D):List D:=[.int .i64 (Int.ofNat c),.str b,.str n,a,f]
abbrev Hc:=Nat×Bool×Ty×Nat×List UInt8×List UInt8×D×D
def Hc.c(a:Hc):List D:=j2 a.2.2.2.1 a.2.2.2.2.1 a.2.2.2.2.2.1 a.2.2.2.2.2.2.1 a.2.2.2.2.2.2.2
def XH:Nat->Bool:=fun a=>Nat.beq a 40||Nat.beq a 1000004||Nat.beq a 1000008||Nat.beq a 1000011
def UL(b:Bool):Tm:=[(2,.bp 2 0),(3,.bp 3 0),(4,ct b)]
def UM(b a:Bool):Tm:=[(2,.bp 2 0),(3,.bp 3 0),(4,ct b),(5,ct a)]
def UN(e:Rd)(n:List UInt8)(f c:Bool)(a:List UInt8)(b:D)(d:Hc):VS:=[dq e d.1,.box (Vq 0 n f c a b d.c ph ph G7 [] []),.box [.bp 0 0],.box [.bp 1 0]]
def UO(e:Rd)(n:List UInt8)(f c:Bool)(a:List UInt8)(b:D)(lo:List D)(d:Hc):VS:=[dq e d.1,.box (Vq 0 n f c a b lo d.c ph G7 [] []),.box [.bp 0 0],.box [.bp 1 0]]
variable{h:Rd}
theorem MT(o:h.Wf){c l:List mv}{p e:Nat}(d:p<h.ts.length)(a:fq h c p=.ok l e):p<e/\e<h.ts.length:=by
 rw[fq]at a;split at a
 ·cases a
 ·rename_i t b;have f:(h.tok p).kind≠0:=by
   intro m;have:∀s,c0 (h.tok p) s=false:=fun s=>by
    cases a:c0 (h.tok p) s with
    |false=>rfl
    |true=>exact absurd m (qN a)
   rw[sM,this,this,this]at b;cases b
  obtain⟨s,n,_⟩:=du a;obtain⟨r,q⟩:=iM o dc (o.go p _ (bZ d) f) n;exact⟨om,q⟩
variable{g:Nat->PR Ty}
theorem sU(ak:h.Wf){p:Nat}(Q:eo g h p)(aM:Good g h p)(s c:Bool)(a:List UInt8)(aD:p<h.ts.length):b1 C b7 wi [.bp 0 0,.bp 1 0] [dq h p,.box (XC s c a)] (Vr h (hM g h s c a p)):=by
 have aJ:=ak.len;refine cA XH (fun _=>Z) ?_;repeat refine b6 ?_
 refine l0 (k:=2) ak dc aD 0 ?_ (fun E X I=>?_) (fun v K X I=>?_)
 ·exact Z
 ·obtain⟨be,au⟩:=iM ak dc aD I;repeat refine b6 ?_
  apply gh (T:=fun _=>Rl) (S:=Ha h 0 E s c a ph ph ph G7 [] []) (I:=fun f:Nat×List mv×D=>X<=f.1/\f.1<h.ts.length/\uA f.2.1 f.2.2/\hT (fq h) h [] X=.ok f.2.1 f.1)
  ·intro y;refine pb h X (h.tok X) [91] (bZ au) 0 ?_ ?_
   ·exact Z
   apply aZ<;>intro l
   ·refine C7 ak (fq h) Vp (Vo 0 E s c a (b3 0) PS) [.box (Vq 0 E s c a .cn ph ph ph G7 [] []),.box [.bp 0 0],.box [.bp 1 0]] 4 mQ Z [2,3] (g0:=[]) (a0:=[]) au l ⟨.nil,Nat.zero_le _⟩ (fun aY aI X ba=>⟨ba.1,Nat.le_succ_of_le ba.2⟩) Z Z (fun aI=>by show 4<=5;omega) dc (fun aY aI b O bm aK aP N an=>PP ak 0 E s c a rfl aY aI b O aK aP N an) (fun aG aF b aa aE aX x=>?_) (fun v K b bt aa ab=>?_)
    ·have P:X<=b:=om;rcases aF with _|⟨ay,Y⟩
     ·have aw:aG=[]:=List.eq_nil_of_length_eq_zero aE.1.len.symm;subst aw;exact cF (eW:=Rl) (ii:=Ha h 0 E s c a ph ph ph G7 [] [] (b,[],.cn)) (.pick 2 [0,1,2,3] ⟨Z,Z,tv⟩ Z Z Z Z Z dc ⟨Z,Z,Z,Z,Z,Z,Z,Z,tv⟩) (y (b,[],.cn) ⟨P,x,.nil,aa⟩)
     ·refine pu 4 1 Rl (es:=7) (l:=ay::Y) rfl rfl (fZ _) ⟨rfl,rfl,tv⟩ ⟨tv,tv,tv⟩ (by repeat' (first|exact tv|exact fun _=>⟨rfl,by simp⟩|refine And.intro ?_ ?_)) (fun bk=>?_);exact cF (eW:=Rl) (ii:=Ha h 0 E s c a ph ph ph G7 [] [] (b,aG,.ps bk (0*7) 7 (Y.length+1) (List.take (Y.length+1) (List.drop 0 (ay::Y))))) (.pick 2 [0,1,2,3] ⟨Z,Z,tv⟩ Z Z Z Z Z dc ⟨Z,Z,Z,Z,Z,Z,Z,Z,tv⟩) (y (b,aG,_) ⟨P,x,by rw[eH _ _ sm];exact .ps aE.1,aa⟩)
    ·exact jD (by simp only[hM,I,aa]) om
   ·refine cF (eW:=Rl) (ii:=Ha h 0 E s c a ph ph ph G7 [] [] (X,[],.cn)) (.same ⟨Z,Z,tv⟩ Z) (y (X,[],.cn) ⟨YM _,au,.nil,by rw[hT,if_neg (by rw[l];decide)]⟩)
  ·rintro⟨m,R,o⟩ ⟨F,B,H,A⟩;have bc:X<=m:=F;have x:m<h.ts.length:=B;have az:uA R o:=H;have P:hT (fq h) h [] X=.ok R m:=A;clear F B H A;apply gh (T:=fun f:Hc=>UL f.2.1) (S:=UN h E s c a o) (I:=fun f:Hc=>m<=f.1/\f.1<h.ts.length/\gK f.2.2.1 f.c/\lf g h [62,58] uz m=.ok (f.2.1,f.2.2.1) f.1)
   ·intro y;refine cG h m (h.tok m) [62,58] (bZ x) om 0 ?_ (fun l=>?_) (fun l=>?_)
    ·exact Z
    ·have G:=ak.step x l;repeat refine dX ?_
     repeat refine b6 ?_
     refine Q.call (m+1) om G 0 _ _ ?_ (fun r aB e z d=>?_) (fun v K e z=>?_)
     ·exact Z
     ·obtain⟨S,U,tn,V,W,rfl⟩:=d.di;obtain⟨af,q⟩:=Q.lt _ _ _ om G z;repeat refine b6 ?_
      exact cF (eW:=UL true) (ii:=(UN h E s c a o) (e,true,r,S,U,tn,V,W)) (.same ⟨Z,Z,Z,tv⟩ Z) (y (e,true,r,S,U,tn,V,W) ⟨by show m<=e;omega,q,d,by simp only[lf,l,if_true,z,PR.map]⟩)
     ·have am:∀t0,lf g h [62,58] t0 m=.bad v K:=fun t0=>by simp only[lf,l,if_true,z,PR.map]
      exact jD (by simp only[hM,I,P,am]) sm
    ·repeat refine dX ?_
     exact cF (eW:=UL false) (ii:=(UN h E s c a o) (m,false,uz,1,[],[],.cn,.cn)) (.same ⟨Z,Z,Z,tv⟩ Z) (y (m,false,uz,1,[],[],.cn,.cn) ⟨YM _,x,(gK.mk .nil .nil),by simp only[lf,l,if_false,YL]⟩)
   ·rintro⟨b,n,M,N,ac,j,i,f1⟩ ⟨F,B,H,A⟩;have bb:m<=b:=F;have J:b<h.ts.length:=B;have ae:gK M (j2 N ac j i f1):=H;have ai:lf g h [62,58] uz m=.ok (n,M) b:=A;clear F B H A;apply gh (T:=fun f:Hc=>UM n f.2.1) (S:=UO h E s c a o (j2 N ac j i f1)) (I:=fun f:Hc=>b<=f.1/\f.1<h.ts.length/\gK f.2.2.1 f.c/\lf g h [60,58] c1 b=.ok (f.2.1,f.2.2.1) f.1)
    ·intro y;refine cG h b (h.tok b) [60,58] (bZ J) om 0 ?_ (fun l=>?_) (fun l=>?_)
     ·exact Z
     ·have G:=ak.step J l;repeat refine dX ?_
      repeat refine b6 ?_
      refine Q.call (b+1) om G 0 _ _ ?_ (fun r aB e z d=>?_) (fun v K e z=>?_)
      ·exact Z
      ·obtain⟨S,U,tn,V,W,rfl⟩:=d.di;obtain⟨af,q⟩:=Q.lt _ _ _ om G z;repeat refine b6 ?_
       exact cF (eW:=(UM n) true) (ii:=(UO h E s c a o (j2 N ac j i f1)) (e,true,r,S,U,tn,V,W)) (.same ⟨Z,Z,Z,Z,tv⟩ Z) (y (e,true,r,S,U,tn,V,W) ⟨by show b<=e;omega,q,d,by simp only[lf,l,if_true,z,PR.map]⟩)
      ·have am:∀t0,lf g h [60,58] t0 b=.bad v K:=fun t0=>by simp only[lf,l,if_true,z,PR.map]
       exact jD (by simp only[hM,I,P,ai,am]) sm
     ·repeat refine dX ?_
      exact cF (eW:=(UM n) false) (ii:=(UO h E s c a o (j2 N ac j i f1)) (b,false,c1,0,[],[],.cn,.cn)) (.same ⟨Z,Z,Z,Z,tv⟩ Z) (y (b,false,c1,0,[],[],.cn,.cn) ⟨YM _,J,(gK.mk .nil .nil),by simp only[lf,l,if_false,YL]⟩)
    ·rintro⟨e,t,L,an,aT,aO,aS,f2⟩ ⟨F,B,H,A⟩;have af:b<=e:=F;have q:e<h.ts.length:=B;have al:gK L (j2 an aT aO aS f2):=H;have ax:lf g h [60,58] c1 b=.ok (t,L) e:=A;clear F B H A;have ao:hM g h s c a p=(dA g h [61] e).map fun r=>⟨0,E,s,c,a,R,if n||t then M else r,if n||t then L else r,r,qa,[],[]⟩:=by simp only[hM,I,P,ai,ax]
     intro aQ;refine gM ak [61] q aQ _ 0 Z (fun O ag=>?_) (fun O bi=>?_)
     ·repeat refine b6 ?_
      refine Q.call (e+1) om ag 0 _ _ ?_ (fun r aB aA k d=>?_) (fun v K aA k=>?_)
      ·exact Z
      ·obtain⟨ar,ap,aq,av,f3,rfl⟩:=d.di;obtain⟨aC,aU,_,aH⟩:=aM _ _ _ om ag k;repeat refine b6 ?_
       have ab:∀(f aR:List D),gK (if n||t then M else r) f->gK (if n||t then L else r) aR->rL ⟨0,E,s,c,a,R,if n||t then M else r,if n||t then L else r,r,qa,[],[]⟩ (mG 0 E s c a o f aR (j2 ar ap aq av f3) G7 [] []):=fun f aR aL aN=>⟨_,_,_,_,_,az,aL,aN,d,TP,rfl⟩;have T:hM g h s c a p=.ok ⟨0,E,s,c,a,R,if n||t then M else r,if n||t then L else r,r,qa,[],[]⟩ aA:=by rw[ao];simp only[dA,cu,O,if_true,k,PR.map]
       cases n with
       |true=>exact G9 T (ab _ _ ae al)
       |false=>
        cases t with
        |true=>exact G9 T (ab _ _ ae al)
        |false=>
         have ad:cJ r<4294967296:=om;repeat refine b6 ?_
         refine C8 (cJ r) ad r [.int .i64 (Int.ofNat ar),.str ap,.str aq,av,f3] (YM _) d aC (fun d1 aj=>?_);obtain⟨bs,bh,bu,bq,f4,rfl⟩:=aj.di;repeat refine b6 ?_
         refine C8 (cJ r) ad r [.int .i64 (Int.ofNat ar),.str ap,.str aq,av,f3] (YM _) d aC (fun d2 ah=>?_);obtain⟨bo,bg,bj,bp,f5,rfl⟩:=ah.di;repeat refine b6 ?_
         exact G9 T (ab _ _ aj ah)
      ·exact jD (by rw[ao];simp only[dA,cu,O,if_true,k,PR.map]) sm
     ·exact jD (by rw[ao];simp only[dA,cu,O,if_false,YL,PR.map]) sm
 ·exact jD (by simp only[hM,I]) sm
variable{j:VS} {i:PR kA}
theorem lh{f:FuncId}{p:Nat}{m:List V}(A:b1 C b7 f [.bp 0 0,.bp 1 0] [dq h p,.box m] (Vr h i))(r n:Nat)(t:r≠n){y:dC->VS->Prop}(v:nth j r=some (dq h p))(D:nth j n=some (.box m))(F:e5 0 m=true) 
  (w:∀u s q,i=.ok u q->rL u s->y (.ret (.dV [])) ((j.set r (dq h q)).set n (.box (s.map V.d)))) (E:∀d e q o,i=.bad d e->fG 0 o=true->y (.eE (dt d e)) ((j.set r (dq h q)).set n o)):b1 C b7 f [.bp r 0,.bp n 0] j y:=by
 refine b1.two (dN:=[.bp 0 0,.bp 1 0]) (P:=fun z c b=>fG 0 b=true/\XD h i z c b) (A.mono fun z G l=>?_) r n t v D Z F Z Z (fun z c b l=>?_)
 ·obtain⟨c,b,a,H,s,u,e⟩:=l;exact⟨c,b,a,H,s,u,u,e⟩
 ·obtain⟨B,l⟩:=l;unfold XD at l;split at l
  ·obtain⟨rfl,rfl,s,x,rfl⟩:=l;exact w _ s _ Z x
  ·obtain⟨rfl,q,rfl⟩:=l;exact E _ _ q b Z B
def XI(f:Rd)(m:PR kA)(c:dC)(b:List V):Prop:=match m with
 |.ok l q=>b=ub f q/\∃d,rL l d/\c=.ret (.agg (d.map V.d))
 |.bad a e=>∃q,b=ub f q/\c=.eE (dt a e)
def XJ(e:Rd)(d:PR kA)(c:dC)(b:VS):Prop:=∃a,b=[.box a]/\cN c=true/\e5 0 a=true/\XI e d c a
variable{k:Nat}
theorem w5{d:kA}{c:List D}(b:i=.ok d k)(a:rL d c):cP 1 (.ret (.agg (c.map V.d))) (dq h k::j) (XJ h i):=by
 subst b;exact cP.drop 1 Z (by show(fG 1 (dq h k)&&ln 1 j 0)=true;rw[ln];rfl) (pc 1 c) (cP.now rfl ⟨_,rfl,pc 0 c,rfl,rfl,c,a,rfl⟩)
theorem l1{a b:Nat}(c:i=.bad a b):cP 1 (.eE (dt a b)) (dq h k::j) (XJ h i):=by
 subst c;exact cP.drop 1 Z (by show(fG 1 (dq h k)&&ln 1 j 0)=true;rw[ln];rfl) rfl (cP.now rfl ⟨_,rfl,rfl,rfl,k,rfl,rfl⟩)
theorem JF(D:h.Wf){ae:Nat->PR Ex}{p:Nat}(ac:eo g h p)(am:Good g h p)(ag:ld cR ae h p)(F:p<h.ts.length):b1 C b7 us [.bp 0 0] [dq h p] (XJ h (eS g ae h p)):=by
 have ao:=D.len;refine cz ?_;refine cG h p (h.tok p) [101,120,112,111,114,116] (bZ F) om 0 Z (fun ad=>?_) (fun ad=>?_)
 ·have u:=D.step F ad;refine cG h (p+1) (h.tok (p+1)) [100,101,112,114,101,99,97,116,101,100] (bZ u) om 0 ?_ (fun af=>?_) (fun af=>?_)
  ·exact Z
  ·have aj:=D.step u af;refine l0 (k:=4) D dc aj 0 ?_ (fun an A ai=>?_) (fun v E A ai=>?_)
   ·exact Z
   ·obtain⟨ap,ab⟩:=iM D dc aj ai;have o:kf h p=.ok (true,true,an) A:=by simp only[kf,ad,af,if_true,ai,PR.map]
    have w:eo g h (A+1):=⟨fun t ah A ak=>ac.lt t ah A om,fun t ak=>ac.call t om⟩;have L:Good g h (A+1):=fun t ah A ak=>am t ah A om;have B:ld cR ae h (A+1):=ag.up om;refine cG h A (h.tok A) [116,121,112,101] (bZ ab) om 0 ?_ (fun f=>?_) (fun f=>?_)
    ·exact Z
    ·refine lh (sU D w L true true an (D.step ab f)) 0 2 dc ?_ ?_ Z (fun x al r e q=>?_) (fun v E r U e S=>?_)
     ·exact Z
     ·exact Z
     ·obtain⟨l,aa,V,y,z,m,d,b,c,a,rfl⟩:=q;obtain⟨G,T,Y,X,f1,rfl⟩:=d.di;obtain⟨W,H,k,i,f2,rfl⟩:=b.di;obtain⟨N,I,K,P,f3,rfl⟩:=c.di;obtain⟨O,j,M,J,Q,t4,R,d4,rfl⟩:=a.eight;exact w5 (d:=x) (by rw[eS,o];simp only[f,if_true];exact e) ⟨l,_,_,_,_,m,d,b,c,a,rfl⟩
     ·exact l1 (by rw[eS,o];simp only[f,if_true];exact e)
    ·refine cG h A (h.tok A) [108,101,116] (bZ ab) om 0 ?_ (fun n=>?_) (fun n=>?_)
     ·exact Z
     ·refine lh (sS D w B true true an (D.step ab n)) 0 2 dc ?_ ?_ Z (fun x al r e q=>?_) (fun v E r U e S=>?_)
      ·exact Z
      ·exact Z
      ·obtain⟨l,aa,V,y,z,m,d,b,c,a,rfl⟩:=q;obtain⟨G,T,Y,X,f1,rfl⟩:=d.di;obtain⟨W,H,k,i,f2,rfl⟩:=b.di;obtain⟨N,I,K,P,f3,rfl⟩:=c.di;obtain⟨O,j,M,J,Q,t4,R,d4,rfl⟩:=a.eight;exact w5 (d:=x) (by rw[eS,o];simp only[f,n,if_true,if_false,YL];exact e) ⟨l,_,_,_,_,m,d,b,c,a,rfl⟩
      ·exact l1 (by rw[eS,o];simp only[f,n,if_true,if_false,YL];exact e)
     ·refine cG h A (h.tok A) [117,115,101] (bZ ab) om 0 ?_ (fun s=>?_) (fun s=>?_)
      ·exact Z
      ·refine lh (sR D true true an (D.step ab s)) 0 2 dc ?_ ?_ Z (fun x al r e q=>?_) (fun v E r U e S=>?_)
       ·exact Z
       ·exact Z
       ·obtain⟨l,aa,V,y,z,m,d,b,c,a,rfl⟩:=q;obtain⟨G,T,Y,X,f1,rfl⟩:=d.di;obtain⟨W,H,k,i,f2,rfl⟩:=b.di;obtain⟨N,I,K,P,f3,rfl⟩:=c.di;obtain⟨O,j,M,J,Q,t4,R,d4,rfl⟩:=a.eight;exact w5 (d:=x) (by rw[eS,o];simp only[f,n,s,if_true,if_false,YL];exact e) ⟨l,_,_,_,_,m,d,b,c,a,rfl⟩
       ·exact l1 (by rw[eS,o];simp only[f,n,s,if_true,if_false,YL];exact e)
      ·refine ei h A _ (bZ ab) 0 ?_ ?_
       ·exact Z
       refine eO _ (h.tok A).off 3 ?_;exact l1 (by rw[eS,o];simp only[f,n,s,if_false,YL])
   ·exact l1 (by simp only[eS,kf,ad,af,if_true,ai,PR.map])
  ·have o:kf h p=.ok (true,false,[]) (p+1):=by simp only[kf,ad,af,if_true,if_false,YL]
   have w:eo g h ((p+1)+1):=⟨fun t ah A ak=>ac.lt t ah A om,fun t ak=>ac.call t om⟩;have L:Good g h ((p+1)+1):=fun t ah A ak=>am t ah A om;have B:ld cR ae h ((p+1)+1):=ag.up om;refine cG h (p+1) (h.tok (p+1)) [116,121,112,101] (bZ u) om 0 ?_ (fun f=>?_) (fun f=>?_)
   ·exact Z
   ·refine lh (sU D w L true false [] (D.step u f)) 0 2 dc ?_ ?_ Z (fun x al r e q=>?_) (fun v E r U e S=>?_)
    ·exact Z
    ·exact Z
    ·obtain⟨l,aa,V,y,z,m,d,b,c,a,rfl⟩:=q;obtain⟨G,T,Y,X,f1,rfl⟩:=d.di;obtain⟨W,H,k,i,f2,rfl⟩:=b.di;obtain⟨N,I,K,P,f3,rfl⟩:=c.di;obtain⟨O,j,M,J,Q,t4,R,d4,rfl⟩:=a.eight;exact w5 (d:=x) (by rw[eS,o];simp only[f,if_true];exact e) ⟨l,_,_,_,_,m,d,b,c,a,rfl⟩
    ·exact l1 (by rw[eS,o];simp only[f,if_true];exact e)
   ·refine cG h (p+1) (h.tok (p+1)) [108,101,116] (bZ u) om 0 ?_ (fun n=>?_) (fun n=>?_)
    ·exact Z
    ·refine lh (sS D w B true false [] (D.step u n)) 0 2 dc ?_ ?_ Z (fun x al r e q=>?_) (fun v E r U e S=>?_)
     ·exact Z
     ·exact Z
     ·obtain⟨l,aa,V,y,z,m,d,b,c,a,rfl⟩:=q;obtain⟨G,T,Y,X,f1,rfl⟩:=d.di;obtain⟨W,H,k,i,f2,rfl⟩:=b.di;obtain⟨N,I,K,P,f3,rfl⟩:=c.di;obtain⟨O,j,M,J,Q,t4,R,d4,rfl⟩:=a.eight;exact w5 (d:=x) (by rw[eS,o];simp only[f,n,if_true,if_false,YL];exact e) ⟨l,_,_,_,_,m,d,b,c,a,rfl⟩
     ·exact l1 (by rw[eS,o];simp only[f,n,if_true,if_false,YL];exact e)
    ·refine cG h (p+1) (h.tok (p+1)) [117,115,101] (bZ u) om 0 ?_ (fun s=>?_) (fun s=>?_)
     ·exact Z
     ·refine lh (sR D true false [] (D.step u s)) 0 2 dc ?_ ?_ Z (fun x al r e q=>?_) (fun v E r U e S=>?_)
      ·exact Z
      ·exact Z
      ·obtain⟨l,aa,V,y,z,m,d,b,c,a,rfl⟩:=q;obtain⟨G,T,Y,X,f1,rfl⟩:=d.di;obtain⟨W,H,k,i,f2,rfl⟩:=b.di;obtain⟨N,I,K,P,f3,rfl⟩:=c.di;obtain⟨O,j,M,J,Q,t4,R,d4,rfl⟩:=a.eight;exact w5 (d:=x) (by rw[eS,o];simp only[f,n,s,if_true,if_false,YL];exact e) ⟨l,_,_,_,_,m,d,b,c,a,rfl⟩
      ·exact l1 (by rw[eS,o];simp only[f,n,s,if_true,if_false,YL];exact e)
     ·refine ei h (p+1) _ (bZ u) 0 ?_ ?_
      ·exact Z
      refine eO _ (h.tok (p+1)).off 3 ?_;exact l1 (by rw[eS,o];simp only[f,n,s,if_false,YL])
 ·have o:kf h p=.ok (false,false,[]) p:=by simp only[kf,ad,if_false,YL]
  have w:eo g h (p+1):=⟨fun t ah A ak=>ac.lt t ah A om,fun t ak=>ac.call t om⟩;have L:Good g h (p+1):=fun t ah A ak=>am t ah A om;have B:ld cR ae h (p+1):=ag.up om;refine cG h p (h.tok p) [116,121,112,101] (bZ F) om 0 ?_ (fun f=>?_) (fun f=>?_)
  ·exact Z
  ·refine lh (sU D w L false false [] (D.step F f)) 0 2 dc ?_ ?_ Z (fun x al r e q=>?_) (fun v E r U e S=>?_)
   ·exact Z
   ·exact Z
   ·obtain⟨l,aa,V,y,z,m,d,b,c,a,rfl⟩:=q;obtain⟨G,T,Y,X,f1,rfl⟩:=d.di;obtain⟨W,H,k,i,f2,rfl⟩:=b.di;obtain⟨N,I,K,P,f3,rfl⟩:=c.di;obtain⟨O,j,M,J,Q,t4,R,d4,rfl⟩:=a.eight;exact w5 (d:=x) (by rw[eS,o];simp only[f,if_true];exact e) ⟨l,_,_,_,_,m,d,b,c,a,rfl⟩
   ·exact l1 (by rw[eS,o];simp only[f,if_true];exact e)
  ·refine cG h p (h.tok p) [108,101,116] (bZ F) om 0 ?_ (fun n=>?_) (fun n=>?_)
   ·exact Z
   ·refine lh (sS D w B false false [] (D.step F n)) 0 2 dc ?_ ?_ Z (fun x al r e q=>?_) (fun v E r U e S=>?_)
    ·exact Z
    ·exact Z
    ·obtain⟨l,aa,V,y,z,m,d,b,c,a,rfl⟩:=q;obtain⟨G,T,Y,X,f1,rfl⟩:=d.di;obtain⟨W,H,k,i,f2,rfl⟩:=b.di;obtain⟨N,I,K,P,f3,rfl⟩:=c.di;obtain⟨O,j,M,J,Q,t4,R,d4,rfl⟩:=a.eight;exact w5 (d:=x) (by rw[eS,o];simp only[f,n,if_true,if_false,YL];exact e) ⟨l,_,_,_,_,m,d,b,c,a,rfl⟩
    ·exact l1 (by rw[eS,o];simp only[f,n,if_true,if_false,YL];exact e)
   ·refine cG h p (h.tok p) [117,115,101] (bZ F) om 0 ?_ (fun s=>?_) (fun s=>?_)
    ·exact Z
    ·refine lh (sR D false false [] (D.step F s)) 0 2 dc ?_ ?_ Z (fun x al r e q=>?_) (fun v E r U e S=>?_)
     ·exact Z
     ·exact Z
     ·obtain⟨l,aa,V,y,z,m,d,b,c,a,rfl⟩:=q;obtain⟨G,T,Y,X,f1,rfl⟩:=d.di;obtain⟨W,H,k,i,f2,rfl⟩:=b.di;obtain⟨N,I,K,P,f3,rfl⟩:=c.di;obtain⟨O,j,M,J,Q,t4,R,d4,rfl⟩:=a.eight;exact w5 (d:=x) (by rw[eS,o];simp only[f,n,s,if_true,if_false,YL];exact e) ⟨l,_,_,_,_,m,d,b,c,a,rfl⟩
     ·exact l1 (by rw[eS,o];simp only[f,n,s,if_true,if_false,YL];exact e)
    ·refine ei h p _ (bZ F) 0 ?_ ?_
     ·exact Z
     refine eO _ (h.tok p).off 3 ?_;exact l1 (by rw[eS,o];simp only[f,n,s,if_false,YL])
end Go.Proofs.YtpejealjkmhkgaaGreatDoor
