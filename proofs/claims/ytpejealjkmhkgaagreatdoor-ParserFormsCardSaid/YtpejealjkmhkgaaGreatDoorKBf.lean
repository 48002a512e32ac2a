/- Part of the proof. -/
import Derived.Test.YtpejealjkmhkgaaGreatDoorKBe
set_option linter.all false
set_option maxHeartbeats 16000000
set_option maxRecDepth 100000
open Bool renaming false_eq_true->abK
open Nat renaming le_of_ble_eq_true->abL,le_refl->aeu,beq->aeM,zero_le->aeP
open Int renaming ofNat->aet
open List renaming length_cons->aev,length_map->aeN,length_append->aeO,length_nil->aeQ
namespace Go.Proofs.YtpejealjkmhkgaaGreatDoor
open Go.AM Go.VM
abbrev ZR(b:Nat)(d:cH):D:=.ps b 0 5 1 [d]
def ad1:Nat->Bool:=fun b=>aeM b 49||aeM b 55||aeM b 56||aeM b 59||aeM b 67||aeM b 70||aeM b 85||aeM b 87||aeM b 90
variable{a:Nat->PR Ty} {g:Rd}
theorem MC(o:g.Wf)(s:cq){p:Nat}(l:ef a g p)(k:p<g.ts.length)(f:Nat){σ:VS}{K:cO->VS->Prop}(b:nth σ f=some (dp g p))(k1:∀m d q,iH a g s p=.ok m q->je m d->K (.ret (.agg (d.map V.d))) (σ.set f (dp g q))) 
  (k2:∀off e q,iH a g s p=.bad off e->K (.eH (dt off e)) (σ.set f (dp g q))):bV C ca uW [.bp f 0,cn s] σ K:=by
 refine bV.one (dM:=[.bp 0 0,cn s]) (P:=Qg g (iH a g s p)) (J4 o s l k) f b Z Z Z (fun r n h=>?_);unfold Qg at h;exact OV
theorem B7{p b:Nat}(d:(g.tok p).kind≠b):decide (aet (g.tok p).kind=aet b)=false:=decide_eq_false fun e=>d (by simp only[Int.ofNat_eq_natCast]at e;omega)
theorem zk{p b:Nat}(d:(g.tok p).kind=b):decide (aet (g.tok p).kind=aet b)=true:=by rw[d];exact decide_eq_true rfl
def zl(f:Nat->PR Ty)(b:Nat->PR Ex)(h:Rd)(p:Nat):PR Ex:=match f p with
 |.bad d e=>.bad d e
 |.ok l k=>match cu h [[124]] k with
  |.bad d e=>.bad d e
  |.ok _ q1=>(gA (oc b) h [93] [] q1).map fun m=>.mk 14 [] [] [] 0 [l] [] m
variable{c:Nat->PR Ex}
theorem MD(A:g.Wf)(i:g.Ng){p:Nat}(H:ef a g p)(x:mA cR c g (p+1))(o:p<g.ts.length):
  bV C ca nw [.bp 0 0] [dp g p] (K3 g (gd a c g p)):=by
 have ao:=A.len;refine cv ad1 (fun _=>Z) ?_;refine eF g p _ (bY o) 0 Z ?_;by_cases b:(g.tok p).kind=3
 ·refine cg (zk b) ?_;refine TH A i 9223372036854775807 p o (.inl Z) 0 Z (fun aB aw u q s=>?_) (fun t D u q=>?_)
  ·obtain⟨ai,ak,al,M,E,G,N,O,rfl⟩:=s.eight;refine a8 1 (dQ (by rw[gd,if_pos b,q]) s)
  ·refine a8 1 (cJ (by rw[gd,if_pos b,q]))
 refine a7 (B7 b) ?_;by_cases e:(g.tok p).kind=4
 ·refine cg (zk e) ?_;refine dK g p _ (bY o) om 0 Z ?_;have K:eu (g.tok p) p=p+1:=by rw[eu,if_neg om]
  rw[K];refine a8 1 (dQ (by rw[gd,if_neg b,if_pos e]) (.mk .nil .nil .nil))
 refine a7 (B7 e) ?_;by_cases d:(g.tok p).kind=1
 ·refine cg (zk d) ?_;have h:p+1<g.ts.length:=A.go p _ (bY o) om;repeat refine ch ?_
  refine dK g p _ (bY o) om 0 Z ?_;have K:eu (g.tok p) p=p+1:=by rw[eu,if_neg om]
  rw[K];repeat refine ch ?_
  refine MC A (g.tok p).text ⟨fun W am u aj=>H.lt W am u om,fun W aj=>H.call W om⟩ h 0 Z (fun aB aw u q s=>?_) (fun t D u q=>?_)
  ·obtain⟨ai,ak,al,M,E,G,N,O,rfl⟩:=s.eight;repeat refine ch ?_
   refine a8 1 (dQ (by rw[gd,if_neg b,if_neg e,if_pos d,q]) s)
  ·refine a8 1 (cJ (by rw[gd,if_neg b,if_neg e,if_pos d,q]))
 refine a7 (B7 d) ?_;refine cI g p _ [116,114,117,101] (bY o) om 0 Z (fun k=>?_) (fun k=>?_)
 ·refine a8 1 (dQ (by simp only[gd,b,e,d,k,if_false,if_true]) (.mk .nil .nil .nil))
 refine cI g p _ [102,97,108,115,101] (bY o) om 0 Z (fun l=>?_) (fun l=>?_)
 ·refine a8 1 (dQ (by simp only[gd,b,e,d,k,l,if_false,if_true,abK]) (.mk .nil .nil .nil))
 refine cI g p _ [123] (bY o) om 0 Z (fun m=>?_) (fun m=>?_)
 ·have h:=A.step o m;refine bV.gone ?_;refine Dt A [125] 5 (kids:=[]) (my:=[]) x h .nil (aeP _) 0 4 dc Z Z (fun aN d2 q2 aE z R ap=>?_) (fun t D q2 aE z ap=>?_)
  ·obtain⟨ai,ak,al,M,E,G,N,O,rfl⟩:=R.eight;refine a8 1 (dQ (by simp only[gd,b,e,d,k,l,m,if_false,if_true,abK,z]) R)
  ·refine a8 1 (cJ (by simp only[gd,b,e,d,k,l,m,if_false,if_true,abK,z]))
 refine cI g p _ [60] (bY o) om 0 Z (fun n=>?_) (fun n=>?_)
 ·have h:=A.step o n;refine kH g (p+1) _ (bY h) om 0 Z (fun I=>?_) (fun I=>?_)
  ·have ae:p+1+1<g.ts.length:=A.go (p+1) _ (bY h) om;intro ac;refine gZ A [58] ae ac _ 0 Z (fun f Q=>?_) (fun f u=>?_)
   ·repeat refine ch ?_
    refine x.call (p+1+1+1) om Q 0 _ _ Z (fun aB aw u q s=>?_) (fun t D u q=>?_)
    ·obtain⟨ag,B⟩:=x.lt _ _ _ om Q q;obtain⟨ai,ak,al,M,E,G,N,O,rfl⟩:=s.eight;intro aG;repeat refine cf ?_
     intro J;repeat refine cf ?_
     intro an;refine gZ A [62] B an _ 0 Z (fun r ad=>?_) (fun r u=>?_)
     ·refine a8 1 (dQ (by simp only[gd,dh,fj,cu,PR.map,b,e,d,k,l,m,n,I,f,r,if_false,if_true,ne_eq,not_true,abK,q]) (.mk .nil .nil (.ps (.cons s .nil))))
     ·refine a8 1 (cJ (by simp only[gd,dh,fj,cu,PR.map,b,e,d,k,l,m,n,I,f,r,if_false,if_true,ne_eq,not_true,abK,q]))
    ·refine a8 1 (cJ (by simp only[gd,dh,fj,cu,PR.map,b,e,d,k,l,m,n,I,f,if_false,if_true,ne_eq,not_true,abK,q]))
   ·refine a8 1 (cJ (by simp only[gd,dh,fj,cu,PR.map,b,e,d,k,l,m,n,I,f,if_false,if_true,ne_eq,not_true,abK]))
  ·refine a8 1 (cJ (by simp only[gd,dh,b,e,d,k,l,m,n,I,if_false,if_true,ne_eq,not_false_eq_true,abK]))
 refine cI g p _ [91] (bY o) om 0 Z (fun v=>?_) (fun v=>?_)
 ·have h:=A.step o v;have L:gd a c g p=zl a c g (p+1):=by
   simp only[gd,b,e,d,k,l,m,n,v,if_false,if_true,abK];rfl
  rw[L];clear L;refine H.call (p+1) om h 0 _ _ Z (fun am az af q w=>?_) (fun t D u q=>?_)
  ·obtain⟨aD,T⟩:=H.lt _ _ _ om h q;obtain⟨S,U,tn,V,X,rfl⟩:=w.cZ;intro ac;intro J;refine gZ A [124] T J _ 0 Z (fun f F=>?_) (fun f u=>?_)
   ·have L:zl a c g (p+1)=(gA (oc c) g [93] [] (af+1)).map fun aK=>.mk 14 [] [] [] 0 [am] [] aK:=by
     simp only[zl,q,cu,f,if_true]
    rw[L];clear L;have aa:mA cR c g (af+1):=x.up om;refine FN A [93] (oc c) p1I (p1T [.int .i64 (aet (g.tok p).kind),.str (g.tok p).text,.int .i64 (aet (g.tok p).off)] (ZR ac [.int .i64 (aet S),.str U,.str tn,V,X])) (g0:=[]) (a0:=[]) [.box [.bp 0 0],.box jz,.box [bW (g.tok p).kind,cn (g.tok p).text,bW (g.tok p).off],.box (jx 14 [] (ZR ac [.int .i64 (aet S),.str U,.str tn,V,X]) (.d .ci) (.d .ci))] 5 pY Z [4,1] F ⟨.nil,aeP _⟩ (fun av j u aj=>⟨aj.1,Nat.le_succ_of_le aj.2⟩) Z Z (fun j=>by show 5<=6;omega) dc (fun av j u f r aq ay d au=>WD A aa _ _ av j u f r aq ay d au) (fun av j u P aC _ ag=>?_) (fun t D u aL P=>?_)
    ·obtain⟨ah,aI⟩:=aC;rcases j with _|⟨aF,ax⟩
     ·cases ah;refine a8 1 (dQ (by rw[P];rfl) (.mk (.ps (.cons w .nil) sm) .nil .nil))
     ·exact B6 4 (ax.length+1) Z Z ah (.ps (.cons w .nil) sm) .nil (by rw[P];rfl)
    ·exact BN (by rw[P];rfl)
   ·refine a8 1 (cJ (by simp only[zl,q,cu,f,if_false,abK]))
  ·refine a8 1 (cJ (by simp only[zl,q]))
 refine cI g p _ [40] (bY o) om 0 Z (fun y=>?_) (fun y=>?_)
 ·have h:=A.step o y;refine x.call (p+1) om h 0 _ _ Z (fun aB aw u q s=>?_) (fun t D u q=>?_)
  ·obtain⟨ag,B⟩:=x.lt _ _ _ om h q;obtain⟨ai,ak,al,M,E,G,N,O,rfl⟩:=s.eight;refine cI g u _ [58] (bY B) om 0 Z (fun f=>?_) (fun f=>?_)
   ·have F:=A.step B f;intro aH;repeat refine ch ?_
    refine H.call (u+1) om F 0 _ _ Z (fun am az q2 z w=>?_) (fun t D q2 z=>?_)
    ·obtain⟨ad,Y⟩:=H.lt _ _ _ om F z;obtain⟨S,U,tn,V,X,rfl⟩:=w.cZ;intro ac;repeat refine ch ?_
     intro J;refine gZ A [41] Y J _ 0 Z (fun r ab=>?_) (fun r u=>?_)
     ·refine a8 1 (dQ (by simp only[gd,cu,PR.map,b,e,d,k,l,m,n,v,y,f,r,if_false,if_true,abK,q,z]) (.mk (.ps (.cons w .nil) sm) .nil (.ps (.cons s .nil))))
     ·refine a8 1 (cJ (by simp only[gd,cu,PR.map,b,e,d,k,l,m,n,v,y,f,r,if_false,if_true,abK,q,z]))
    ·refine a8 1 (cJ (by simp only[gd,cu,PR.map,b,e,d,k,l,m,n,v,y,f,if_false,if_true,abK,q,z]))
   ·intro J;refine gZ A [41] B J _ 0 Z (fun r ab=>?_) (fun r u=>?_)
    ·refine a8 1 (dQ (by simp only[gd,cu,PR.map,b,e,d,k,l,m,n,v,y,f,r,if_false,if_true,abK,q]) s)
    ·refine a8 1 (cJ (by simp only[gd,cu,PR.map,b,e,d,k,l,m,n,v,y,f,r,if_false,if_true,abK,q]))
  ·refine a8 1 (cJ (by simp only[gd,b,e,d,k,l,m,n,v,y,if_false,if_true,abK,q]))
 refine fK _ (g.tok p).off 3 ?_;refine a8 1 (cJ (by simp only[gd,b,e,d,k,l,m,n,v,y,if_false,abK]))
abbrev Oq(s:cq)(d:Nat)(h b:cq)(e f:D)(o:Bool)(k:D):FE:=⟨s,d,h,b,e,f,o,[],k⟩
def ad2:Nat->Bool:=fun b=>aeM b 8||aeM b 14||aeM b 23
def ad3:Nat->Bool:=fun b=>aeM b 10||aeM b 24||aeM b 25||aeM b 29
theorem ME(o:Nat)(n:cq)(f:D){l:List eo}{xs:List FE}(w:kI l xs)(s:(xs.map FE.n).Nodup)(G:∀p∈l,p.val.length<=1)(e:Nat)(F:e=xs.length)(B:e<4294967295)(k m:Nat)(q:k≠m){σ:VS}{K:cO->VS->Prop}(t:nth σ k=some (.row 9 (dg true xs)))(x:nth σ m=some .gone) 
  (y:∀p d b,fW 0 p=true->eR ((cG eo.n l).map eo.FH) d->jt ((cG eo.n l).flatMap eo.val) b->b.length<=e+1->K (.ret (.agg (jx o n f (.d d) (kV σ.length 8 b)))) (((σ.set k p).set m .gone)++[kO 8 b])):
  bV C ca jL [.agg (jx o n f (.d .ci) (.d .ci)),.d .ci,.ms k 9 0 e e] σ K:=by
 refine(My o n f w s G e F B).frame [k,m] Z (by simp[q]) (fun H u h=>?_) Z Z (fun I z h _=>?_)
 ·match H,h with
  |0,h=>
   obtain rfl:k=u:=by simpa using h
   exact⟨_,Z,by rw[<-ck,t];exact r7 _ _,jv _ _ _⟩
  |1,h=>
   obtain rfl:m=u:=by simpa using h
   exact⟨_,Z,by rw[<-ck,x];rfl,Z⟩
  |H+2,h=>simp at h
 ·obtain⟨p,d,b,rfl,r,v,E,A,rfl⟩:=h;have J:nZ (jT [k,m] σ.length) (.ret (.agg (jx o n f (.d d) (kV 2 8 b))))=.ret (.agg (jx o n f (.d d) (kV σ.length 8 b))):=by
   show cO.ret (.agg (jx o n f (.d d) (gW _ (kV 2 8 b))))=_;rw[nB];rfl
  rw[J];simp only[List.map_cons,List.map_nil,fh _ _ r,Dk,merge];exact y p d b r v E A
def f1I(l:List eo)(xs:List FE)(d:Nat):Prop:=kI l xs/\(xs.map FE.n).Nodup/\(∀b∈l,b.val.length<=1)/\xs.length<=d
def f1T(xs:List FE):VS:=[.box [.bp 0 0],.box jz,.box [kV 6 9 (J2 xs)],pg (xs.map FE.n),.box [.map 4],kO 9 (J2 xs)]
theorem acS{π:Nat->Nat}(xs:List FE)(b:FE):some (pg (xs.map FE.n++[b.n]))=some (dF π (pg ((xs++[b]).map FE.n))):=by
 exact X5
theorem WE(af:g.Wf){lo:Nat}(aa:ef a g lo)(P:mA cR c g lo)(l:List eo)(xs:List FE)(d:Nat)(ak:f1I l xs d)(an:lo<=d)(ac:d<g.ts.length)(W:cO->VS->Prop) 
  (Y:∀ae ad o D,jW a c g l d=.ok ae o->f1I ae ad o->d<o->o<g.ts.length->rr 6 (dp g o::D) (dp g o::f1T ad)->W (.ret (.dS [])) (dp g o::D))
  (L:∀z ao o D,jW a c g l d=.bad z ao->6<=D.length+1->W (.eH (dt z ao)) (dp g o::D)):bV C ca oP (nC [1,5,3]) (dp g d::f1T xs) W:=by
 have aj:=af.len;obtain⟨S,O,hv,x⟩:=ak;have M:=S.names;refine bV.body ad3 (fun _=>Z) ?_;refine p7 g af d ac (xs.map FE.n) 0 4 dc Z Z (fun p b=>?_) (fun p b=>?_) (fun p=>?_)
 ·have b:(g.tok d).text ∉ l.map eo.n:=M▸b;have j:d+1<g.ts.length:=af.go d _ (bY ac) om;intro ag;refine gZ af [58] j ag _ 0 ?_ (fun A Q=>?_) (fun A o=>?_)
  ·exact Z
  ·refine aa.call (d+1+1) om Q 0 _ _ ?_ (fun X ap q2 B E=>?_) (fun z ah q2 B=>?_)
   ·exact Z
   ·obtain⟨ai,w⟩:=aa.lt _ _ _ om Q B;obtain⟨e,k,tn,f,h,rfl⟩:=E.cZ;refine cI g q2 (g.tok q2) [61] (bY w) om 0 ?_ (fun G=>?_) (fun G=>?_)
    ·exact Z
    ·have R:=af.step w G;repeat refine ch ?_
     refine P.call (q2+1) om R 0 _ _ ?_ (fun ab ar q3 N i=>?_) (fun z ah q3 N=>?_)
     ·exact Z
     ·obtain⟨am,V⟩:=P.lt _ _ _ om R N;obtain⟨t,U,T,u,n,m,v,r,rfl⟩:=i.eight;intro aq;repeat refine cf ?_
      intro s;repeat refine cf ?_
      intro al;have H:jW a c g l d=.ok (l++[⟨(g.tok d).text,[],X,true,[ab]⟩]) q3:=by simp only[jW,eJ,p,ne_eq,not_true,if_false,b,cu,A,if_true,B,G,N,PR.map]
      have J:kI (l++[⟨(g.tok d).text,[],X,true,[ab]⟩]) (xs++[Oq (g.tok d).text e k tn f h true (.ps s 0 8 1 [[.int .i64 (aet t),.str U,.str T,.str u,.int .i64 n,m,v,r]])]):=S.snoc rfl rfl rfl E (.ps (.cons i .nil));have q:=vT (x:=(Oq (g.tok d).text e k tn f h true (.ps s 0 8 1 [[.int .i64 (aet t),.str U,.str T,.str u,.int .i64 n,m,v,r]]))) O M b;have I:∀y∈l++[(⟨(g.tok d).text,[],X,true,[ab]⟩:eo)],y.val.length<=1:=by
       exact Y7
      rcases xs with _|⟨F,K⟩;all_goals
       first
        |refine a6 rfl (a6 ⟨abL rfl,abL rfl⟩ (a7 rfl ?_))
        |refine a6 rfl (a6 ⟨rfl,rfl,by simp,aeu _,rB (by simp only[aev,aeN]at x⊢;omega) (aeu _) (abL rfl)⟩ (a7 rfl (a7 (lk _) ?_)))
       refine Y _ _ _ _ H ⟨J,q,I,by simp only[aeO,aev,aeQ]at x⊢;omega⟩ om V ⟨[0,1,2,3,4,5,8],Z,dc,by show 6<=7;omega,Z,Z,Z,Z,Z,Z,by first|exact zg (Oq (g.tok d).text e k tn f h true (.ps s 0 8 1 [[.int .i64 (aet t),.str U,.str T,.str u,.int .i64 n,m,v,r]])) rfl|exact vU F K (Oq (g.tok d).text e k tn f h true (.ps s 0 8 1 [[.int .i64 (aet t),.str U,.str T,.str u,.int .i64 n,m,v,r]])) rfl,B5 _ Z,acS _ (Oq (g.tok d).text e k tn f h true (.ps s 0 8 1 [[.int .i64 (aet t),.str U,.str T,.str u,.int .i64 n,m,v,r]])),lp _ _ (iM _),Z,Z,by first|exact zh (Oq (g.tok d).text e k tn f h true (.ps s 0 8 1 [[.int .i64 (aet t),.str U,.str T,.str u,.int .i64 n,m,v,r]]))|exact vV F K (Oq (g.tok d).text e k tn f h true (.ps s 0 8 1 [[.int .i64 (aet t),.str U,.str T,.str u,.int .i64 n,m,v,r]])),gH _ _ _,tv⟩
     ·exact L _ _ _ _ (by simp only[jW,eJ,p,ne_eq,not_true,if_false,b,cu,A,if_true,B,G,N,PR.map]) (by show 6<=8;omega)
    ·intro al;have H:jW a c g l d=.ok (l++[⟨(g.tok d).text,[],X,false,[]⟩]) q2:=by simp only[jW,eJ,p,ne_eq,not_true,if_false,b,cu,A,if_true,B,G,abK]
     have J:kI (l++[⟨(g.tok d).text,[],X,false,[]⟩]) (xs++[Oq (g.tok d).text e k tn f h false .ci]):=S.snoc rfl rfl rfl E .nil;have q:=vT (x:=(Oq (g.tok d).text e k tn f h false .ci)) O M b;have I:∀y∈l++[(⟨(g.tok d).text,[],X,false,[]⟩:eo)],y.val.length<=1:=by
      exact Y7
     rcases xs with _|⟨F,K⟩;all_goals
      first
       |refine a6 rfl (a6 ⟨abL rfl,abL rfl⟩ (a7 rfl ?_))
       |refine a6 rfl (a6 ⟨rfl,rfl,by simp,aeu _,rB (by simp only[aev,aeN]at x⊢;omega) (aeu _) (abL rfl)⟩ (a7 rfl (a7 (lk _) ?_)))
      refine Y _ _ _ _ H ⟨J,q,I,by simp only[aeO,aev,aeQ]at x⊢;omega⟩ om w ⟨[0,1,2,3,4,5,8],Z,dc,by show 6<=7;omega,Z,Z,Z,Z,Z,Z,by first|exact zg (Oq (g.tok d).text e k tn f h false .ci) rfl|exact vU F K (Oq (g.tok d).text e k tn f h false .ci) rfl,B5 _ Z,acS _ (Oq (g.tok d).text e k tn f h false .ci),lp _ _ (iM _),Z,Z,by first|exact zh (Oq (g.tok d).text e k tn f h false .ci)|exact vV F K (Oq (g.tok d).text e k tn f h false .ci),gH _ _ _,tv⟩
   ·exact L _ _ _ _ (by simp only[jW,eJ,p,ne_eq,not_true,if_false,b,cu,A,if_true,B]) (by show 6<=8;omega)
  ·exact L _ _ _ _ (by simp only[jW,eJ,p,ne_eq,not_true,if_false,b,cu,A,abK]) (by show 6<=8;omega)
 ·have b:(g.tok d).text∈l.map eo.n:=M▸b;exact L _ _ _ _ (by simp only[jW,eJ,p,ne_eq,not_true,if_false,b,if_true]) (by show 6<=7;omega)
 ·exact L _ _ _ _ (by simp only[jW,eJ,p,ne_eq,not_false_eq_true,if_true]) (by show 6<=7;omega)
def Ff(b:Nat->PR Ex)(d:Rd):PR (List eo)->PR Ex
 |.bad e f=>.bad e f
 |.ok h q1=>(fj b d [61,62] q1).map (TF (kq 8 [] [] [] h))
variable{i:Nat}
theorem MF(N:g.Wf)(s:ef a g i)(e:mA cR c g i)(J:i<g.ts.length):
  bV C ca mn [.bp 0 0] [dp g i] (K3 g (funcF a c g i)):=by
 have X:=N.len;refine cv ad2 (fun _=>Z) ?_;intro U;refine gZ N [40] J U _ 0 Z (fun y Y=>?_) (fun y r=>?_)
 ·have R:funcF a c g i=Ff c g (gA (jW a c g) g [41] [] (i+1)):=by
   simp only[funcF,cu,y,if_true];cases gA (jW a c g) g [41] [] (i+1)<;>rfl
  rw[R];have e:mA cR c g (i+1):=e.up om;have s:ef a g (i+1):=⟨fun t ao r E=>s.lt t ao r om,fun t E=>s.call t om⟩;refine FN N [41] (jW a c g) f1I f1T (g0:=[]) (a0:=[]) [.box [.bp 0 0],.box jz,.box [.d .ci],pg [],.box [.map 4]] 6 oP Z [1,5,3] Y ⟨.nil,List.nodup_nil,by simp,aeP _⟩ (fun ai S r E=>⟨E.1,E.2.1,E.2.2.1,Nat.le_succ_of_le E.2.2.2⟩) Z Z (fun S=>by show 6<=7;omega) dc (fun ai S r W Q ab af O ac=>WE N s e ai S r W Q ab af O ac) (fun aq aa r B j ag V=>?_) (fun n x r al B=>?_)
  ·obtain⟨G,K,ad,u⟩:=j;rw[B];intro T;refine gZ N [61,62] V T _ 0 Z (fun h4 p=>?_) (fun h4 ap=>?_)
   ·rcases aa with _|⟨P,M⟩
    ·cases G;refine cC (Qf 8 [] .ci) Z Z ?_;repeat refine ch ?_
     refine e.call (r+1) om p 0 _ _ Z (fun ah H q4 e4 b=>?_) (fun n x q4 e4=>?_)
     ·obtain⟨l,m,o,q,d,k,h,f,rfl⟩:=b.eight;intro I;repeat refine cf ?_
      exact B6 7 1 (els:=[[.int .i64 (aet l),.str m,.str o,.str q,.int .i64 d,k,h,f]]) Z Z (.cons b .nil) .nil .nil (by simp only[Ff,fj,cu,h4,if_true,e4,PR.map];rfl)
     ·exact XR
    ·refine bV.gone ?_;refine ME 8 [] .ci G K ad ((M.map pe).length+1) sm (by simp only[aev,aeN]at u⊢;omega) 6 7 dc (WB P M) Z (fun t ak D aj w v F=>?_);rcases D with _|⟨ae,z⟩
     ·repeat refine ch ?_
      refine e.call (r+1) om p 0 _ _ ?_ (fun ah H q4 e4 b=>?_) (fun n x q4 e4=>?_)
      ·exact Z
      ·obtain⟨l,m,o,q,d,k,h,f,rfl⟩:=b.eight;intro I;repeat refine cf ?_
       exact B6 9 1 (els:=[[.int .i64 (aet l),.str m,.str o,.str q,.int .i64 d,k,h,f]]) Z Z (v.snoc b) .nil w (by simp only[Ff,fj,cu,h4,if_true,e4,PR.map];rfl)
      ·exact XR
     ·repeat refine ch ?_
      refine e.call (r+1) om p 0 _ _ ?_ (fun ah H q4 e4 b=>?_) (fun n x q4 e4=>?_)
      ·exact Z
      ·obtain⟨l,m,o,q,d,k,h,f,rfl⟩:=b.eight;have A:z.length+1<=4294967296:=by simp only[aev,aeN]at F u;omega
       intro I;refine a6 ?_ ?_
       ·repeat' (first|exact tv|exact rfl|refine bZ rfl ?_|refine And.intro ?_ ?_)
       refine a6 Z (a6 ⟨Z,Z,by simp,aeu _,rB A (aeu _) (abL Z)⟩ (a7 Z (a7 (lk _) ?_)));repeat refine cf ?_
       exact B6 9 (z.length+1+1) (TL 8 ae z [.int .i64 (aet l),.str m,.str o,.str q,.int .i64 d,k,h,f]) sm (v.snoc b) .nil w (by simp only[Ff,fj,cu,h4,if_true,e4,PR.map];rfl)
      ·exact XR
   ·exact BN (by simp only[Ff,fj,cu,h4,if_false,abK,PR.map])
  ·exact BN (by rw[B];rfl)
 ·refine a8 1 (cJ (by simp only[funcF,cu,y,if_false,abK]))
abbrev mEl(s e:cq)(b:Nat)(d:cH):FE:=⟨s,0,[],[],.ci,.ci,false,e,.ps b 0 8 1 [d]⟩
def ad4:Nat->Bool:=fun b=>aeM b 9||aeM b 15
def ad5:Nat->Bool:=fun b=>aeM b 12||aeM b 18||aeM b 19||aeM b 23
theorem J7(Q:g.Wf)(aw:ef a g i)(f:mA cR c g i)(af:i<g.ts.length):
  bV C ca pV [.bp 0 0] [dp g i] (K3 g (mz a c g i)):=by
 have ba:=Q.len;refine cv ad4 (fun _=>Z) ?_;refine ph g Q a i af aw 0 Z (fun S bw bl u X=>?_) (fun W av b u=>?_)
 ·obtain⟨bu,F⟩:=kr Q (fun bh S b w aj z=>aw.lt bh S b w aj z) af u;obtain⟨az,aC,tn,aG,aN,rfl⟩:=X.cZ;intro aK;refine f.call bl om F 0 _ _ ?_ (fun q d0 aL k aa=>?_) (fun W av b k=>?_)
  ·exact Z
  ·obtain⟨bp,ag⟩:=f.lt _ _ _ om F k;obtain⟨aR,aH,aA,ae,E,U,Y,j,rfl⟩:=aa.eight;intro bj;refine gZ Q [123] ag bj _ 0 ?_ (fun ap au=>?_) (fun ap b=>?_)
   ·exact Z
   ·have ah:fA [S] (.ps aK 0 5 1 [[.int .i64 (aet az),.str aC,.str tn,aG,aN]]):=.ps (.cons X .nil) sm;have aq:jt [q] [[.int .i64 (aet aR),.str aH,.str aA,.str ae,.int .i64 E,U,Y,j]]:=.cons aa .nil;have bi:mz a c g i=(gA (ks c g) g [125] [] (aL+1)).map (kq 13 [] [S] [q]):=by simp only[mz,u,k,cu,ap,if_true]
    rw[bi];generalize bs:aL+1=p at au⊢;have f:mA cR c g p:=f.up om;refine bV.body ZQ (fun _=>Z) ?_;refine cI g p (g.tok p) [125] (bY au) om 0 ?_ (fun I=>?_) (fun I=>?_)
    ·exact Z
    ·refine Dq (P:=fun J ax=>∃B,je (kq 13 [] [S] [q] []) B/\J=.ret (.agg (B.map V.d))) (dM:=[.agg (jx 13 [] _ (.d .ci) (.d .ci)),kV 0 8 [_],.d .ci]) (FL 13 [] _ ah aq) 8 Z (gr 8 _) Z Z (fun J ax aj=>?_);obtain⟨B,n,rfl⟩:=aj;obtain⟨M,aX,aY,N,t,a,O,R,rfl⟩:=n.eight;refine a8 1 (dQ (by rw[gA,if_pos I];rfl) n)
    ·refine cD (dB:=[(0,.bp 0 0),(1,cn [44]),(2,cn [125]),(3,.fn rZ [] [.bp 1 0,.bp 7 0,.bp 5 0])]) ?_;refine cd.gone ?_;refine cd.iter (fun _:Nat×List eo×List FE=>[(0,.bp 0 0),(1,cn [44]),(2,cn [125]),(3,.fn rZ [] [.bp 1 0,.bp 7 0,.bp 5 0])])
      (fun h=>[dp g h.1,.box [.bp 0 0],.box jz,.box (jx 13 [] (.ps aK 0 5 1 [[.int .i64 (aet az),.str aC,.str tn,aG,aN]]) (.d .ci) (.d .ci)),.box [bW aR,cn aH,cn aA,cn ae,.d (.int .i64 E),.d U,.d Y,.d j],.box [kV 8 9 (J2 h.2.2)],pg (h.2.1.map eo.n),.box [.map 6],kO 9 (J2 h.2.2)]) (fun h=>g.ts.length-h.1)
      (fun h=>p<=h.1/\h.1<g.ts.length/\h.2.2.length<=h.1/\kI h.2.1 h.2.2/\(h.2.2.map FE.n).Nodup/\(∀y∈h.2.1,y.val.length<=1)/\∃x,g.ts.length-h.1<=x/\ji (ks c g) g [125] g.ts.length [] p=ji (ks c g) g [125] x h.2.1 h.1) ?_ (p,[],[]) ⟨aeu _,au,aeP _,.nil,List.nodup_nil,by simp,_,by show g.ts.length-p<=g.ts.length;omega,rfl⟩
     rintro⟨b,K,D⟩ ⟨aT,aO,aW,aM,aI,aE,x,aB,aS⟩;have br:p<=b:=aT;have aQ:b<g.ts.length:=aO;have A:D.length<=b:=aW;have ay:kI K D:=aM;have aU:(D.map FE.n).Nodup:=aI;have hv:∀y∈K,y.val.length<=1:=aE;have bv:g.ts.length-b<=x:=aB;have r:ji (ks c g) g [125] g.ts.length [] p=ji (ks c g) g [125] x K b:=aS;clear aT aO aW aM aI aE aB aS;obtain⟨x,rfl⟩:∃bk,x=bk+1:=⟨x-1,om⟩;have bo:=ay.names;have d:(gA (ks c g) g [125] [] p).map (kq 13 [] [S] [q])=(ji (ks c g) g [125] (x+1) K b).map (kq 13 [] [S] [q]):=by rw[gA,if_neg (by rw[I];decide),r]
     rw[ji]at d r;refine bV.body ad5 (fun _=>Z) ?_;repeat refine ch ?_
     refine p7 g Q b aQ (K.map eo.n) 0 6 dc Z Z (fun m e=>?_) (fun m e=>?_) (fun m=>?_)
     ·have ad:b+1<g.ts.length:=Q.go b _ (bY aQ) om;repeat refine ch ?_
      refine kH g (b+1) _ (bY ad) om 0 ?_ (fun l=>?_) (fun l=>?_)
      ·exact Z
      ·have aJ:b+1+1<g.ts.length:=Q.go (b+1) _ (bY ad) om;repeat refine ch ?_
       intro bc;refine gZ Q [61,62] aJ bc _ 0 ?_ (fun w T=>?_) (fun w bb=>?_)
       ·exact Z
       ·repeat refine ch ?_
        refine f.call (b+1+1+1) om T 0 _ _ ?_ (fun aP B q1 L n=>?_) (fun W av q1 L=>?_)
        ·exact Z
        ·obtain⟨bm,ab⟩:=f.lt _ _ _ om T L;obtain⟨M,aX,aY,N,t,ac,O,R,rfl⟩:=n.eight;intro bx;repeat refine cf ?_
         intro o;repeat refine cf ?_
         intro bz;have H:kI (K++[⟨(g.tok b).text,(g.tok (b+1)).text,cV,false,[aP]⟩]) (D++[mEl (g.tok b).text (g.tok (b+1)).text o [.int .i64 (aet M),.str aX,.str aY,.str N,.int .i64 t,ac,O,R]]):=ay.snoc rfl rfl rfl (.mk .nil .nil) (.ps (.cons n .nil));have s:=vT (x:=mEl (g.tok b).text (g.tok (b+1)).text o [.int .i64 (aet M),.str aX,.str aY,.str N,.int .i64 t,ac,O,R]) aU bo e;have G:∀y∈K++[(⟨(g.tok b).text,(g.tok (b+1)).text,cV,false,[aP]⟩:eo)],y.val.length<=1:=by
          exact aak
         have aF:ks c g K b=.ok (K++[⟨(g.tok b).text,(g.tok (b+1)).text,cV,false,[aP]⟩]) q1:=by simp only[ks,eJ,dh,m,l,ne_eq,not_true,if_false,e,fj,cu,w,if_true,L,PR.map]
         rw[aF]at d r;dsimp only at d r;rcases D with _|⟨an,v⟩;all_goals
          first
           |refine a6 rfl (a6 ⟨abL rfl,abL rfl⟩ (a7 rfl ?_))
           |refine a6 rfl (a6 ⟨rfl,rfl,by simp,aeu _,rB (by simp only[aev,aeN]at A⊢;omega) (aeu _) (abL rfl)⟩ (a7 rfl (a7 (lk _) ?_)))
          refine cI g q1 (g.tok q1) [125] (bY ab) om 0 ?_ (fun z=>?_) (fun z=>?_)
          ·exact Z
          ·rw[if_pos z]at d;first
            |refine bV.two (dM:=[.agg (jx 13 [] _ (.d .ci) (.d .ci)),kV 1 8 [_],.ms 0 9 0 1 1]) (P:=fun J _ _=>∃B,je (kq 13 [] [S] [q] _) B/\J=.ret (.agg (B.map V.d))) ((sQ 13 [] _ ah aq H s G (aeu _) 1 rfl dc).mono (fun J aV I=>by obtain⟨p,ax,ai,ao,ar,am,al⟩:=I;exact⟨p,ax,ai,am,ao,ar,al⟩)) 10 11 dc rfl rfl (jv 0 9 _) (gr 8 _) rfl rfl (fun J bg bf I=>?_)
            |refine bV.two (dM:=[.agg (jx 13 [] _ (.d .ci) (.d .ci)),kV 1 8 [_],.ms 0 9 0 ((v.map pe).length+1+1) ((v.map pe).length+1+1)]) (P:=fun J _ _=>∃B,je (kq 13 [] [S] [q] _) B/\J=.ret (.agg (B.map V.d))) ((sQ 13 [] _ ah aq H s G (aeu _) ((v.map pe).length+1+1) sm (by simp only[aev,aeN]at A⊢;omega)).mono (fun J aV I=>by obtain⟨p,ax,ai,ao,ar,am,al⟩:=I;exact⟨p,ax,ai,am,ao,ar,al⟩)) 10 11 dc (FM an v (mEl (g.tok b).text (g.tok (b+1)).text o _)) rfl (jv 0 9 _) (gr 8 _) rfl rfl (fun J bg bf I=>?_)
           obtain⟨B,n,rfl⟩:=I;obtain⟨M,aX,aY,N,t,a,O,R,rfl⟩:=n.eight;refine a8 1 (dQ (by rw[d];rfl) n)
          ·rw[if_neg (by rw[z];decide)]at d r;intro be;refine gZ Q [44] ab be _ 0 ?_ (fun ak aD=>?_) (fun ak bb=>?_)
           ·exact Z
           ·rw[vX ak]at r;refine⟨(q1+1,_,_),⟨by show p<=q1+1;omega,aD,by simp only[aeO,aev,aeQ]at A⊢;omega,H,s,G,x,by show g.ts.length-(q1+1)<=x;omega,r⟩,by show g.ts.length-(q1+1)<g.ts.length-b;omega,.pick 8 [0,1,2,3,4,5,6,7,10] ⟨Z,Z,Z,Z,tv⟩ Z Z Z Z Z dc ⟨Z,Z,Z,Z,Z,Z,Z,Z,Z,Z,by first|exact zg (mEl (g.tok b).text (g.tok (b+1)).text o _) rfl|exact vU an v (mEl (g.tok b).text (g.tok (b+1)).text o _) rfl,B5 _ Z,Oj K ⟨(g.tok b).text,(g.tok (b+1)).text,cV,false,[aP]⟩,lp _ _ (iM _),Z,Z,by first|exact zh (mEl (g.tok b).text (g.tok (b+1)).text o _)|exact vV an v (mEl (g.tok b).text (g.tok (b+1)).text o _),gH _ _ _,tv⟩,Z,Z⟩
           ·refine a8 1 (cJ (by rw[d];simp only[cu,ak,if_false,abK,PR.map]))
        ·refine a8 1 (cJ (by rw[d];simp only[ks,eJ,dh,m,l,ne_eq,not_true,if_false,e,fj,cu,w,if_true,L,PR.map]))
       ·refine a8 1 (cJ (by rw[d];simp only[ks,eJ,dh,m,l,ne_eq,not_true,if_false,e,fj,cu,w,abK,PR.map]))
      ·refine a8 1 (cJ (by rw[d];simp only[ks,eJ,dh,m,l,ne_eq,not_true,not_false_eq_true,if_false,e,if_true,PR.map]))
     ·refine a8 1 (cJ (by rw[d];simp only[ks,eJ,m,ne_eq,not_true,if_false,e,if_true,PR.map]))
     ·refine a8 1 (cJ (by rw[d];simp only[ks,eJ,m,ne_eq,not_false_eq_true,if_true,PR.map]))
   ·refine a8 1 (cJ (by simp only[mz,u,k,cu,ap,if_false,abK]))
  ·refine a8 1 (cJ (by simp only[mz,u,k]))
 ·refine a8 1 (cJ (by simp only[mz,u]))
abbrev wD(e:Rd)(lo:Nat)(fn:Nat->PR Ex):Prop:=∀b f d,lo<=b->b<e.ts.length->fn b=.ok f d->b<d/\d<e.ts.length
abbrev MG(e:Rd)(lo:Nat)(fn:Nat->PR Ty):Prop:=∀b f d,lo<=b->b<e.ts.length->fn b=.ok f d->b<d/\d<e.ts.length
variable{j:Ex}
theorem k5(k:g.Wf){lo:Nat}(d:wD g lo c){s:cq}{p b:Nat}(f:lo<=p)(e:p<g.ts.length)(h:fj c g s p=.ok j b):p<b/\b<g.ts.length:=On k d f e (.inr h)
theorem p9(h:g.Wf){s:cq}{p b:Nat}{f:Unit}(d:p<g.ts.length)(e:cu g [s] p=.ok f b):p<b/\b<g.ts.length:=by
 have e1:=cL _ _ _ e;have e2:=da h _ _ _ d e;exact XP
theorem WG(l:g.Wf){lo:Nat}(d:wD g lo c):wD g lo (xI c g):=by
 intro u t w n e b;rw[xI]at b;split at b
 ·cases b
 rename_i s q1 k;obtain⟨r,p⟩:=fS l e k;split at b
 ·cases b
 rename_i v q2 h;obtain⟨x,o⟩:=k5 l d om p h;obtain⟨q,f,_⟩:=dv b;obtain⟨y,m⟩:=k5 l d om o f;exact⟨om,m⟩
theorem TN(n:g.Wf){lo:Nat}(h:MG g lo a)(e:wD g lo c):wD g lo (oT a c g):=by
 intro C A o r f b;rw[oT]at b;split at b
 ·cases b
 rename_i s q1 l;obtain⟨z,w⟩:=kr n (fun m x o u=>h m x o om) f l;split at b
 ·cases b
 rename_i v q2 k;obtain⟨D,t⟩:=e q1 v q2 om w k;split at b
 ·cases b
 rename_i p q3 d;obtain⟨E,q⟩:=k5 n e om t d;obtain⟨p,d,_⟩:=dv b;obtain⟨B,y⟩:=k5 n e om q d;exact⟨om,y⟩
theorem Qm(h:g.Wf){lo:Nat}(l:MG g lo a)(k:wD g lo c):wD g lo (mz a c g):=by
 intro y F q m e b;rw[mz]at b;split at b
 ·cases b
 rename_i s q1 f;obtain⟨v,p⟩:=kr h (fun t B q z=>l t B q om) e f;split at b
 ·cases b
 rename_i A q2 o;obtain⟨D,n⟩:=k q1 A q2 om p o;split at b
 ·cases b
 rename_i u q3 d;obtain⟨H,w⟩:=p9 h n d;obtain⟨u,d,_⟩:=dv b;have:=zj h (lo:=lo) (fun v y x q m e b=>?_) om w d
 ·exact⟨om,this.2⟩
 ·rw[ks]at b;split at b
  ·cases b
  rename_i s q1 f;obtain⟨v,p⟩:=Ar h e f;split at b
  ·cases b
  rename_i E q2 r;obtain⟨D,n⟩:=fS h p r;obtain⟨u,d,_⟩:=dv b;obtain⟨G,C⟩:=k5 h k om n d;exact⟨om,C⟩
theorem TO(f:g.Wf){lo:Nat}(l:MG g lo a)(e:wD g lo c):wD g lo (lQ a c g):=by
 intro H F p v k d;rw[lQ]at d;split at d
 ·cases d
 rename_i s q1 n;obtain⟨D,z⟩:=kr f (fun o B p y=>l o B p om) k n;split at d
 ·cases d
 rename_i I q2 m;obtain⟨K,x⟩:=fS f z m;split at d
 ·cases d
 rename_i h q3 b;obtain⟨L,r⟩:=p9 f x b;split at d
 ·cases d
 rename_i h q4 b;obtain⟨G,C⟩:=fS f r b;split at d
 ·cases d
 rename_i h w b;obtain⟨E,u⟩:=k5 f e om C b;split at d
 ·cases d
 rename_i h t b;obtain⟨M,A⟩:=k5 f e om u b;obtain⟨h,b,_⟩:=dv d;obtain⟨J,q⟩:=k5 f e om A b;exact⟨om,q⟩
theorem TP(k:g.Wf){lo:Nat}(n:MG g lo a)(l:wD g lo c):wD g lo (funcF a c g):=by
 intro A D x o d b;rw[funcF]at b;split at b
 ·cases b
 rename_i s q1 f;obtain⟨u,r⟩:=p9 k d f;split at b
 ·cases b
 rename_i F q2 q;have p:=zj k (lo:=lo) (fun u A z x o d b=>?_) om r q
 ·obtain⟨t,e,_⟩:=dv b;obtain⟨G,y⟩:=k5 k l om p.2 e;exact⟨om,y⟩
 ·rw[jW]at b;split at b
  ·cases b
  rename_i s q1 f;obtain⟨u,r⟩:=Ar k d f;split at b
  ·cases b
  rename_i v q2 h;obtain⟨H,B⟩:=p9 k r h;split at b
  ·cases b
  rename_i v q3 h;obtain⟨I,w⟩:=n q2 v q3 om B h;split at b
  ·rename_i m;obtain⟨t,e,_⟩:=dv b;obtain⟨E,C⟩:=l (q3+1) t x om (k.step w m) e;exact⟨om,C⟩
  ·cases b;exact⟨om,w⟩
theorem Qn(o:g.Wf){lo:Nat}(l:MG g lo a){s:cq}{p k:Nat}(r:lo<=p)(f:p<g.ts.length)(e:iH a g s p=.ok j k):p<=k/\k<g.ts.length:=by
 rw[iH]at e;split at e
 ·cases e
 ·rename_i x z y q1 d;have h:p<=q1/\q1<g.ts.length:=by
   split at d
   ·rename_i n;obtain⟨q,b,_⟩:=dv d;obtain⟨w,u⟩:=fS o (o.step f n) b;exact⟨om,u⟩
   ·cases d;exact⟨aeu _,f⟩
  split at e
  ·obtain⟨q,b,_⟩:=dv e;have:=Dn o (fun m v k t=>l m v k om) h.2 b;exact⟨om,this.2⟩
  ·cases e;exact h
theorem TQ(k:g.Wf){lo:Nat}(p:MG g lo a)(n:wD g (lo+1) c):wD g lo (gd a c g):=by
 intro q E A u e b;have t:(g.tok q).kind≠0->q+1<g.ts.length:=fun b=>k.go q _ (bY e) b;rw[gd]at b;split at b
 ·exact Om k e b
 split at b
 ·cases b;exact⟨om,t om⟩
 split at b
 ·have:=Qn k p om (t om) b;exact⟨om,this.2⟩
 split at b
 ·rename_i d;have:=k.step e d;cases b;exact⟨om,this⟩
 split at b
 ·rename_i d;have:=k.step e d;cases b;exact⟨om,this⟩
 split at b
 ·rename_i d;obtain⟨w,o⟩:=As k n om (k.step e d) b;exact⟨om,o⟩
 split at b
 ·rename_i d;have h:=k.step e d;split at b
  ·cases b
  rename_i s q1 m;obtain⟨w,o⟩:=fS k h m;split at b
  ·cases b
  rename_i z q2 l;obtain⟨B,v⟩:=k5 k n om o l;obtain⟨r,f,_⟩:=dv b;obtain⟨D,x⟩:=p9 k v f;exact⟨om,x⟩
 split at b
 ·rename_i d;have h:=k.step e d;split at b
  ·cases b
  rename_i s q1 m;obtain⟨w,o⟩:=p (q+1) s q1 om h m;split at b
  ·cases b
  rename_i z q2 l;obtain⟨B,v⟩:=p9 k o l;obtain⟨r,f,_⟩:=dv b;have:=zj k (lo:=lo+1) (fun w q C A u e b=>by
   obtain⟨r,f,_⟩:=dv b;exact n q r A u e f) om v f
  exact⟨om,this.2⟩
 split at b
 ·rename_i d;have h:=k.step e d;split at b
  ·cases b
  rename_i s q1 m;obtain⟨w,o⟩:=n (q+1) s q1 om h m;split at b
  ·cases b
  rename_i z q2 l;have y:q1<=q2/\q2<g.ts.length:=by
   split at l
   ·rename_i d;obtain⟨r,f,_⟩:=dv l;obtain⟨B,v⟩:=p (q1+1) r q2 om (k.step o d) f;exact⟨om,v⟩
   ·cases l;exact⟨aeu _,o⟩
  obtain⟨r,f,_⟩:=dv b;obtain⟨D,x⟩:=p9 k y.2 f;exact⟨om,x⟩
 ·cases b
theorem aa5(n:g.Wf){lo:Nat}(h:MG g (lo+1) a)(f:wD g (lo+1) c)(p:wD g lo (Wo a c g)):wD g lo (ET a c g):=by
 intro k m l q o d;have e:(g.tok k).kind=5->k+1<g.ts.length:=fun d=>n.go k _ (bY o) om;rw[ET]at d;split at d
 ·rename_i b;have:=WG n f (k+1) m l om (e b.1) d;exact⟨om,this.2⟩
 split at d
 ·rename_i b;have:=TN n h f (k+1) m l om (e b.1) d;exact⟨om,this.2⟩
 split at d
 ·rename_i b;have:=Qm n h f (k+1) m l om (e b.1) d;exact⟨om,this.2⟩
 split at d
 ·rename_i b;have:=TO n h f (k+1) m l om (e b.1) d;exact⟨om,this.2⟩
 split at d
 ·rename_i b;have:=TP n h f (k+1) m l om (e b.1) d;exact⟨om,this.2⟩
 exact p k m l q o d
theorem va{t:FuncId}{p:Nat}{e:PR Ex}(l:bV C ca t [.bp 0 0] [dp g p] (K3 g e))(h:Nat){σ:VS}{K:cO->VS->Prop}(f:nth σ h=some (dp g p))(m:∀s k d,e=.ok s d->je s k->K (.ret (.agg (k.map V.d))) (σ.set h (dp g d))) 
  (q:∀b u d,e=.bad b u->K (.eH (dt b u)) (σ.set h (dp g d))):bV C ca t [.bp h 0] σ K:=by
 refine bV.one (dM:=[.bp 0 0]) (P:=Qg g e) l h f Z Z Z (fun w r l=>?_);cases e with
 |ok v d=>
  obtain⟨rfl,k,n,rfl⟩:=l;exact m v k d Z n
 |bad b o=>
  obtain⟨d,rfl,rfl⟩:=l;exact q b o d Z
def Be:List rL:=[⟨cn [108,101,116],.fn sF [.bp 0 0] [],0⟩,⟨cn [105,102],.fn kn [.bp 0 0] [],1⟩,⟨cn [109,97,116,99,104],.fn pV [.bp 0 0] [],2⟩,⟨cn [102,111,108,100],.fn rm [.bp 0 0] [],3⟩,⟨cn [102,110],.fn mn [.bp 0 0] [],4⟩]
theorem MH{s:cq}(h1:s≠[108,101,116])(h2:s≠[105,102])(h3:s≠[109,97,116,99,104])(h4:s≠[102,111,108,100])(h5:s≠[102,110]):eN .string (cn s) Be 0=some none:=by
 unfold Be;exact Ze
theorem MI(x:g.Wf){p:Nat}(v:ef a g (p+1))(o:mA cR c g (p+1))(w:mA qN (Wo a c g) g p)(l:p<g.ts.length):
  bV C ca cR [.bp 0 0] [dp g p] (K3 g (ET a c g p)):=by
 have E:=x.len;refine cm ?_;refine cc none Z ?_;refine cc none Z ?_;refine cc none Z ?_;refine cc none Z ?_;refine cc none Z ?_;refine eF g p _ (bY l) 0 Z ?_;by_cases d:(g.tok p).kind=5
 ·refine cg (zk d) ?_;have m:p+1<g.ts.length:=x.go p _ (bY l) om;have n:eu (g.tok p) p=p+1:=by rw[eu,if_neg om]
  by_cases t1:(g.tok p).text=[108,101,116]
  ·refine cc (some (0,.fn sF [.bp 0 0] [])) (show eN .string (cn (g.tok p).text) Be 0=_ by rw[t1];rfl) ?_;refine dK g p _ (bY l) om 0 Z ?_;rw[n];refine va (Qk x o m) 0 Z (fun y A u e b=>?_) (fun h q u e=>?_)
   ·obtain⟨z,D,B,s,f,k,t,r,rfl⟩:=b.eight;refine a8 1 (dQ (by simp only[ET,d,t1,true_and,if_true,if_false];exact e) b)
   ·refine a8 1 (cJ (by simp only[ET,d,t1,true_and,if_true,if_false];exact e))
  by_cases t2:(g.tok p).text=[105,102]
  ·refine cc (some (1,.fn kn [.bp 0 0] [])) (show eN .string (cn (g.tok p).text) Be 0=_ by rw[t2];rfl) ?_;refine dK g p _ (bY l) om 0 Z ?_;rw[n];refine va (MA x v o m) 0 Z (fun y A u e b=>?_) (fun h q u e=>?_)
   ·obtain⟨z,D,B,s,f,k,t,r,rfl⟩:=b.eight;refine a8 1 (dQ (by simp only[ET,d,t1,t2,true_and,if_true,if_false];exact e) b)
   ·refine a8 1 (cJ (by simp only[ET,d,t1,t2,true_and,if_true,if_false];exact e))
  by_cases t3:(g.tok p).text=[109,97,116,99,104]
  ·refine cc (some (2,.fn pV [.bp 0 0] [])) (show eN .string (cn (g.tok p).text) Be 0=_ by rw[t3];rfl) ?_;refine dK g p _ (bY l) om 0 Z ?_;rw[n];refine va (J7 x v o m) 0 Z (fun y A u e b=>?_) (fun h q u e=>?_)
   ·obtain⟨z,D,B,s,f,k,t,r,rfl⟩:=b.eight;refine a8 1 (dQ (by simp only[ET,d,t1,t2,t3,true_and,if_true,if_false];exact e) b)
   ·refine a8 1 (cJ (by simp only[ET,d,t1,t2,t3,true_and,if_true,if_false];exact e))
  by_cases t4:(g.tok p).text=[102,111,108,100]
  ·refine cc (some (3,.fn rm [.bp 0 0] [])) (show eN .string (cn (g.tok p).text) Be 0=_ by rw[t4];rfl) ?_;refine dK g p _ (bY l) om 0 Z ?_;rw[n];refine va (MB x v o m) 0 Z (fun y A u e b=>?_) (fun h q u e=>?_)
   ·obtain⟨z,D,B,s,f,k,t,r,rfl⟩:=b.eight;refine a8 1 (dQ (by simp only[ET,d,t1,t2,t3,t4,true_and,if_true,if_false];exact e) b)
   ·refine a8 1 (cJ (by simp only[ET,d,t1,t2,t3,t4,true_and,if_true,if_false];exact e))
  by_cases t5:(g.tok p).text=[102,110]
  ·refine cc (some (4,.fn mn [.bp 0 0] [])) (show eN .string (cn (g.tok p).text) Be 0=_ by rw[t5];rfl) ?_;refine dK g p _ (bY l) om 0 Z ?_;rw[n];refine va (MF x v o m) 0 Z (fun y A u e b=>?_) (fun h q u e=>?_)
   ·obtain⟨z,D,B,s,f,k,t,r,rfl⟩:=b.eight;refine a8 1 (dQ (by simp only[ET,d,t1,t2,t3,t4,t5,true_and,if_true,if_false];exact e) b)
   ·refine a8 1 (cJ (by simp only[ET,d,t1,t2,t3,t4,t5,true_and,if_true,if_false];exact e))
  refine cc none (show eN .string (cn (g.tok p).text) Be 0=_ from MH t1 t2 t3 t4 t5) ?_;refine w.call p (aeu _) l 0 _ _ Z (fun y A u e b=>?_) (fun h q u e=>?_)
  ·obtain⟨z,D,B,s,f,k,t,r,rfl⟩:=b.eight;refine a8 1 (dQ (by simp only[ET,d,t1,t2,t3,t4,t5,true_and,if_false];exact e) b)
  ·refine a8 1 (cJ (by simp only[ET,d,t1,t2,t3,t4,t5,true_and,if_false];exact e))
 ·refine a7 (B7 d) ?_;refine w.call p (aeu _) l 0 _ _ Z (fun y A u e b=>?_) (fun h q u e=>?_)
  ·obtain⟨z,D,B,s,f,k,t,r,rfl⟩:=b.eight;refine a8 1 (dQ (by simp only[ET,d,false_and,if_false];exact e) b)
  ·refine a8 1 (cJ (by simp only[ET,d,false_and,if_false];exact e))
theorem aa6(d:g.Wf)(e:g.Ng){lo:Nat}(h:ef a g lo)(b:mA cR c g (lo+1)):mA qN (Wo a c g) g lo:=by
 have p:mA nw (gd a c g) g lo:=mA.of (fun m n k o f q=>TQ d (fun m n k q=>h.lt m n k om) (fun m n k q=>b.lt m n k om) m n k o f q) (fun m o f=>MD d e ⟨fun l w k q=>h.lt l w k om,fun l q=>h.call l om⟩ (b.up om) f);have r:=aa3 d p b;have s:=acR d e r g.ts.length lo g.ts.length (aeu _) om om;have u:=acM d s;have v:=acN d u;have t:=acQ d v g.ts.length lo g.ts.length (aeu _) om om;exact adS d (acO d t)
theorem ZS(l:g.Wf)(m:g.Ng):∀(k lo:Nat),g.ts.length-lo<=k->mA cR (Ih g k) g lo:=by
 intro k;induction k with
 |zero=>intro lo o;exact⟨fun f r n d b=>om,fun f d b=>om⟩
 |succ k h=>
  intro lo o;have e:mA qN (Wo (dl g g.ts.length) (Ih g k) g) g lo:=aa6 l m (Ds l g.ts.length lo om) (h (lo+1) om);have q:=Ds l g.ts.length lo om;refine mA.of (fun f p n d b o=>aa5 l (lo:=lo) (fun f p n o=>q.lt f p n om) (h (lo+1) om).lt e.lt f p n d b o) (fun f d b=>?_);exact MI l (Ds l g.ts.length (f+1) om) (h (f+1) om) (e.up d) b
end Go.Proofs.YtpejealjkmhkgaaGreatDoor
