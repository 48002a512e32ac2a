/- Part of the proof. -/
import Derived.Test.YthlkhjchcjflkaaGreatDoorKAs
set_option linter.all false
set_option maxHeartbeats 16000000
set_option maxRecDepth 100000
open Nat renaming le_refl->Yl,le_of_ble_eq_true->Yo,zero_le->Ys,beq->YA,add_assoc->YL,ble_eq_true_of_le->YM
open List renaming length_cons->Ym,mem_append->Yp,length_nil->Yq,length_map->Yt,take_of_length_le->Yu,mem_singleton->Yv,length_append->Yw,map_append->Yx,map_cons->Yz,cons_append->YB,getElem?_eq_getElem->YC,mem_map->YE,map_nil->YF,takeWhile_cons->YG,getElem?_map->YI,nil_append->YJ,drop_zero->YK,getElem?_eq_none->YN
open Int renaming ofNat->Yn
open Bool renaming false_eq_true->Yr,and_eq_true->Yy,true_and->YD,and_true->YH
namespace Go.Proofs.YthlkhjchcjflkaaGreatDoor
open Go.AM Go.VM
abbrev Lj(b:List UInt8)(c:Nat)(e a:List UInt8)(d f:D)(o:Bool)(g:D):FE:=⟨b,c,e,a,d,f,o,[],g⟩
def WY:Nat->Bool:=fun a=>YA a 8||YA a 14||YA a 23
def WZ:Nat->Bool:=fun a=>YA a 10||YA a 24||YA a 25||YA a 29
theorem JX(h:Nat)(n:List UInt8)(d:D){l:List cV}{xs:List FE}(r:kr l xs)(m:(xs.map FE.n).Nodup)(z:∀i∈l,i.val.length<=1)(c:Nat)(y:c=xs.length)(w:c<4294967295)(f g:Nat)(j:f≠g){σ:VS}{K:cZ->VS->Prop}(o:nth σ f=some (.row 9 (dz true xs)))(s:nth σ g=some .gone) 
  (t:∀i b a,gY 0 i=true->eV ((ct cV.n l).map cV.pc) b->hh ((ct cV.n l).flatMap cV.val) a->a.length<=c+1->K (.ret (.agg (jx h n d (.d b) (kV σ.length 8 a)))) (((σ.set f i).set g .gone)++[kO 8 a])):
  b3 C cn jC [.agg (jx h n d (.d .cC) (.d .cC)),.d .cC,.ms f 9 0 c c] σ K:=by
 refine(JP h n d r m z c y w).frame [f,g] Z (by simp[j]) (fun A p e=>?_) rfl rfl (fun B u e _=>?_)
 ·match A,e with
  |0,e=>
   obtain rfl:f=p:=by simpa using e
   exact⟨_,Z,by rw[<-cz,o];exact qS _ _,fs _ _ _⟩
  |1,e=>
   obtain rfl:g=p:=by simpa using e
   exact⟨_,Z,by rw[<-cz,s];rfl,rfl⟩
  |A+2,e=>simp at e
 ·obtain⟨i,b,a,rfl,k,q,x,v,rfl⟩:=e;have E:nj (jO [f,g] σ.length) (.ret (.agg (jx h n d (.d b) (kV 2 8 a))))=.ret (.agg (jx h n d (.d b) (kV σ.length 8 a))):=by
   show cZ.ret (.agg (jx h n d (.d b) (iv _ (kV 2 8 a))))=_;rw[rO];rfl
  rw[E];simp only[Yz,YF,fT _ _ k,A2,merge];exact t i b a k q x v
def W0(l:List cV)(xs:List FE)(b:Nat):Prop:=kr l xs/\(xs.map FE.n).Nodup/\(∀a∈l,a.val.length<=1)/\xs.length<=b
def W1(xs:List FE):VS:=[.box [.bp 0 0],.box jz,.box [kV 6 9 (Hx xs)],o7 (xs.map FE.n),.box [.map 4],kO 9 (Hx xs)]
theorem Vp{a:Nat->Nat}(xs:List FE)(b:FE):some (o7 (xs.map FE.n++[b.n]))=some (eC a (o7 ((xs++[b]).map FE.n))):=by
 rw[fT a _ (io _),Yx];rfl
theorem Rr{b:Rd}(aj:b.Wf){H:Nat->PR Ty}{y:Nat->PR Ex}{lo:Nat}(ac:fU H b lo)(O:na dA y b lo)(l:List cV)(xs:List FE)(c:Nat)(ao:W0 l xs c)(ar:lo<=c)(ae:c<b.ts.length)(W:cZ->VS->Prop) 
  (Y:∀ah af k z,ee H y b l c=.ok ah k->W0 ah af k->c<k->k<b.ts.length->Be 6 (e8 b k::z) (e8 b k::W1 af)->W (.ret (.dN [])) (e8 b k::z))
  (J:∀v au k z,ee H y b l c=.bad v au->6<=z.length+1->W (.fO (fC v au)) (e8 b k::z)):b3 C cn nL (uI [1,5,3]) (e8 b c::W1 xs) W:=by
 have an:=aj.len;obtain⟨R,N,ai,u⟩:=ao;have L:=R.names;refine b3.body WZ (fun _=>Z) ?_;refine o8 b aj c ae (xs.map FE.n) 0 4 dc Z Z (fun m a=>?_) (fun m a=>?_) (fun m=>?_)
 ·have a:(b.tok c).text ∉ l.map cV.n:=L▸a;have ab:c+1<b.ts.length:=aj.go c _ (b8 ae) om;intro ak;refine kx aj [58] ab ak _ 0 ?_ (fun w P=>?_) (fun w k=>?_)
  ·exact Z
  ·refine ac.call (c+1+1) om P 0 _ _ ?_ (fun X av K x A=>?_) (fun v al K x=>?_)
   ·exact Z
   ·obtain⟨am,t⟩:=ac.lt _ _ _ om P x;obtain⟨d,g,tn,e,f,rfl⟩:=A.eG;refine dq b K (b.tok K) [61] (b8 t) om 0 ?_ (fun D=>?_) (fun D=>?_)
    ·exact Z
    ·have Q:=aj.step t D;repeat refine b1 ?_
     refine O.call (K+1) om Q 0 _ _ ?_ (fun ad ax ag M aa=>?_) (fun v al ag M=>?_)
     ·exact Z
     ·obtain⟨aq,V⟩:=O.lt _ _ _ om Q M;obtain⟨q,U,T,r,j,i,s,o,rfl⟩:=aa.eight;intro aw;repeat refine b4 ?_
      intro p;repeat refine b4 ?_
      intro ap;have E:ee H y b l c=.ok (l++[⟨(b.tok c).text,[],X,true,[ad]⟩]) ag:=by simp only[ee,dS,m,ne_eq,not_true,if_false,a,cv,w,if_true,x,D,M,PR.map]
      have G:kr (l++[⟨(b.tok c).text,[],X,true,[ad]⟩]) (xs++[Lj (b.tok c).text d g tn e f true (.ps p 0 8 1 [[.int .i64 (Yn q),.str U,.str T,.str r,.int .i64 j,i,s,o]])]):=R.snoc rfl rfl rfl A (.ps (.cons aa .nil));have n:=ub (x:=(Lj (b.tok c).text d g tn e f true (.ps p 0 8 1 [[.int .i64 (Yn q),.str U,.str T,.str r,.int .i64 j,i,s,o]]))) N L a;have F:∀S∈l++[(⟨(b.tok c).text,[],X,true,[ad]⟩:cV)],S.val.length<=1:=by
       intro S h;rcases Yp.1 h with h|h
       ·exact ai S h
       ·simp only[Yv]at h;subst h;first|exact Yl _|exact Ys _
      rcases xs with _|⟨B,I⟩;all_goals
       first
        |refine a7 rfl (a7 ⟨Yo rfl,Yo rfl⟩ (a1 rfl ?_))
        |refine a7 rfl (a7 ⟨rfl,rfl,by simp,Yl _,Cx (by simp only[Ym,Yt]at u⊢;omega) (Yl _) (Yo rfl)⟩ (a1 rfl (a1 (vA _) ?_)))
       refine Y _ _ _ _ E ⟨G,n,F,by simp only[Yw,Ym,Yq]at u⊢;omega⟩ om V ⟨[0,1,2,3,4,5,8],rfl,dc,by show 6<=7;omega,rfl,rfl,rfl,rfl,rfl,rfl,by first|exact xf (Lj (b.tok c).text d g tn e f true (.ps p 0 8 1 [[.int .i64 (Yn q),.str U,.str T,.str r,.int .i64 j,i,s,o]])) rfl|exact uc B I (Lj (b.tok c).text d g tn e f true (.ps p 0 8 1 [[.int .i64 (Yn q),.str U,.str T,.str r,.int .i64 j,i,s,o]])) rfl,zz _ rfl,Vp _ (Lj (b.tok c).text d g tn e f true (.ps p 0 8 1 [[.int .i64 (Yn q),.str U,.str T,.str r,.int .i64 j,i,s,o]])),j2 _ _ (io _),rfl,rfl,by first|exact xg (Lj (b.tok c).text d g tn e f true (.ps p 0 8 1 [[.int .i64 (Yn q),.str U,.str T,.str r,.int .i64 j,i,s,o]]))|exact ud B I (Lj (b.tok c).text d g tn e f true (.ps p 0 8 1 [[.int .i64 (Yn q),.str U,.str T,.str r,.int .i64 j,i,s,o]])),pd _ _ _,tv⟩
     ·exact J _ _ _ _ (by simp only[ee,dS,m,ne_eq,not_true,if_false,a,cv,w,if_true,x,D,M,PR.map]) (by show 6<=8;omega)
    ·intro ap;have E:ee H y b l c=.ok (l++[⟨(b.tok c).text,[],X,false,[]⟩]) K:=by simp only[ee,dS,m,ne_eq,not_true,if_false,a,cv,w,if_true,x,D,Yr]
     have G:kr (l++[⟨(b.tok c).text,[],X,false,[]⟩]) (xs++[Lj (b.tok c).text d g tn e f false .cC]):=R.snoc rfl rfl rfl A .nil;have n:=ub (x:=(Lj (b.tok c).text d g tn e f false .cC)) N L a;have F:∀S∈l++[(⟨(b.tok c).text,[],X,false,[]⟩:cV)],S.val.length<=1:=by
      intro S h;rcases Yp.1 h with h|h
      ·exact ai S h
      ·simp only[Yv]at h;subst h;first|exact Yl _|exact Ys _
     rcases xs with _|⟨B,I⟩;all_goals
      first
       |refine a7 rfl (a7 ⟨Yo rfl,Yo rfl⟩ (a1 rfl ?_))
       |refine a7 rfl (a7 ⟨rfl,rfl,by simp,Yl _,Cx (by simp only[Ym,Yt]at u⊢;omega) (Yl _) (Yo rfl)⟩ (a1 rfl (a1 (vA _) ?_)))
      refine Y _ _ _ _ E ⟨G,n,F,by simp only[Yw,Ym,Yq]at u⊢;omega⟩ om t ⟨[0,1,2,3,4,5,8],rfl,dc,by show 6<=7;omega,rfl,rfl,rfl,rfl,rfl,rfl,by first|exact xf (Lj (b.tok c).text d g tn e f false .cC) rfl|exact uc B I (Lj (b.tok c).text d g tn e f false .cC) rfl,zz _ rfl,Vp _ (Lj (b.tok c).text d g tn e f false .cC),j2 _ _ (io _),rfl,rfl,by first|exact xg (Lj (b.tok c).text d g tn e f false .cC)|exact ud B I (Lj (b.tok c).text d g tn e f false .cC),pd _ _ _,tv⟩
   ·exact J _ _ _ _ (by simp only[ee,dS,m,ne_eq,not_true,if_false,a,cv,w,if_true,x]) (by show 6<=8;omega)
  ·exact J _ _ _ _ (by simp only[ee,dS,m,ne_eq,not_true,if_false,a,cv,w,Yr]) (by show 6<=8;omega)
 ·have a:(b.tok c).text∈l.map cV.n:=L▸a;exact J _ _ _ _ (by simp only[ee,dS,m,ne_eq,not_true,if_false,a,if_true]) (by show 6<=7;omega)
 ·exact J _ _ _ _ (by simp only[ee,dS,m,ne_eq,not_false_eq_true,if_true]) (by show 6<=7;omega)
def yF(a:Nat->PR Ex)(c:Rd):PR (List cV)->PR Ex
 |.bad d e=>.bad d e
 |.ok f b=>(ep a c [61,62] b).map (E3 (iS 8 [] [] [] f))
theorem JY{k:Rd}(P:k.Wf){l:Nat->PR Ty}{g:Nat->PR Ex}{d:Nat}(u:fU l k d)(e:na dA g k d)(L:d<k.ts.length):
  b3 C cn lP [.bp 0 0] [e8 k d] (Ip k (funcF l g k d)):=by
 have aa:=P.len;refine cy WY (fun _=>Z) ?_;intro W;refine kx P [40] L W _ 0 Z (fun A ab=>?_) (fun A t=>?_)
 ·have T:funcF l g k d=yF g k (dK (ee l g k) k [41] [] (d+1)):=by
   simp only[funcF,cv,A,if_true];cases dK (ee l g k) k [41] [] (d+1)<;>rfl
  rw[T];have e:na dA g k (d+1):=e.up om;have u:fU l k (d+1):=⟨fun v ar t G=>u.lt v ar t om,fun v G=>u.call v om⟩;refine Dl P [41] (ee l g k) W0 W1 (g0:=[]) (a0:=[]) [.box [.bp 0 0],.box jz,.box [.d .cC],o7 [],.box [.map 4]] 6 nL Z [1,5,3] ab ⟨.nil,List.nodup_nil,by simp,Ys _⟩ (fun al U t G=>⟨G.1,G.2.1,G.2.2.1,Nat.le_succ_of_le G.2.2.2⟩) rfl rfl (fun U=>by show 6<=7;omega) dc (fun al U t Y S ae ai Q af=>Rr P u e al U t Y S ae ai Q af) (fun av ad t E ac aj X=>?_) (fun p z t ao E=>?_)
  ·obtain⟨I,M,ag,w⟩:=ac;rw[E];intro V;refine kx P [61,62] X V _ 0 Z (fun i r=>?_) (fun i au=>?_)
   ·rcases ad with _|⟨R,O⟩
    ·cases I;refine cN (MF 8 [] .cC) Z Z ?_;repeat refine b1 ?_
     refine e.call (t+1) om r 0 _ _ Z (fun ak J o b a=>?_) (fun p z o b=>?_)
     ·obtain⟨m,n,q,s,c,j,h,f,rfl⟩:=a.eight;intro K;repeat refine b4 ?_
      exact zA 7 1 (els:=[[.int .i64 (Yn m),.str n,.str q,.str s,.int .i64 c,j,h,f]]) Z Z (.cons a .nil) .nil .nil (by simp only[yF,ep,cv,i,if_true,b,PR.map];rfl)
     ·exact ug (by simp only[yF,ep,cv,i,if_true,b,PR.map])
    ·refine b3.gone ?_;refine JX 8 [] .cC I M ag ((O.map pe).length+1) sm (by simp only[Ym,Yt]at w⊢;omega) 6 7 dc (Ro R O) rfl (fun v an F am y x H=>?_);rcases F with _|⟨ah,B⟩
     ·repeat refine b1 ?_
      refine e.call (t+1) om r 0 _ _ ?_ (fun ak J o b a=>?_) (fun p z o b=>?_)
      ·exact Z
      ·obtain⟨m,n,q,s,c,j,h,f,rfl⟩:=a.eight;intro K;repeat refine b4 ?_
       exact zA 9 1 (els:=[[.int .i64 (Yn m),.str n,.str q,.str s,.int .i64 c,j,h,f]]) Z Z (x.snoc a) .nil y (by simp only[yF,ep,cv,i,if_true,b,PR.map];rfl)
      ·exact ug (by simp only[yF,ep,cv,i,if_true,b,PR.map])
     ·repeat refine b1 ?_
      refine e.call (t+1) om r 0 _ _ ?_ (fun ak J o b a=>?_) (fun p z o b=>?_)
      ·exact Z
      ·obtain⟨m,n,q,s,c,j,h,f,rfl⟩:=a.eight;have D:B.length+1<=4294967296:=by simp only[Ym,Yt]at H w;omega
       intro K;refine a7 ?_ ?_
       ·repeat' (first|exact tv|exact rfl|refine bZ rfl ?_|refine And.intro ?_ ?_)
       refine a7 Z (a7 ⟨Z,Z,by simp,Yl _,Cx D (Yl _) (Yo rfl)⟩ (a1 rfl (a1 (vA _) ?_)));repeat refine b4 ?_
       exact zA 9 (B.length+1+1) (HA 8 ah B [.int .i64 (Yn m),.str n,.str q,.str s,.int .i64 c,j,h,f]) sm (x.snoc a) .nil y (by simp only[yF,ep,cv,i,if_true,b,PR.map];rfl)
      ·exact ug (by simp only[yF,ep,cv,i,if_true,b,PR.map])
   ·exact ug (by simp only[yF,ep,cv,i,if_false,Yr,PR.map])
  ·exact ug (by rw[E];rfl)
 ·refine a6 1 (cS (by simp only[funcF,cv,A,if_false,Yr]))
abbrev TM(c d:List UInt8)(b:Nat)(a:List D):FE:=⟨c,0,[],[],.cC,.cC,false,d,.ps b 0 8 1 [a]⟩
def W2:Nat->Bool:=fun a=>YA a 9||YA a 15
def W4:Nat->Bool:=fun a=>YA a 12||YA a 18||YA a 19||YA a 23
theorem HC{a:Rd}(Q:a.Wf){w:Nat->PR Ty}{d:Nat->PR Ex}{r:Nat}(ay:fU w a r)(f:na dA d a r)(ag:r<a.ts.length):
  b3 C cn oW [.bp 0 0] [e8 a r] (Ip a (j7 w d a r)):=by
 have bc:=Q.len;refine cy W2 (fun _=>Z) ?_;refine n9 a Q w r ag ay 0 Z (fun S bA bp u X=>?_) (fun W ax b u=>?_)
 ·obtain⟨bx,G⟩:=j3 Q (fun bj S b y ak A=>ay.lt bj S b y ak A) ag u;obtain⟨aB,aE,tn,aI,aP,rfl⟩:=X.eG;intro aM;refine f.call bp om G 0 _ _ ?_ (fun o d0 aN h ab=>?_) (fun W ax b h=>?_)
  ·exact Z
  ·obtain⟨bs,ah⟩:=f.lt _ _ _ om G h;obtain⟨aT,aJ,aC,af,F,U,Y,aa,rfl⟩:=ab.eight;intro bl;refine kx Q [123] ah bl _ 0 ?_ (fun ar aw=>?_) (fun ar b=>?_)
   ·exact Z
   ·have ai:fK [S] (.ps aM 0 5 1 [[.int .i64 (Yn aB),.str aE,.str tn,aI,aP]]):=.ps (.cons X .nil) sm;have au:hh [o] [[.int .i64 (Yn aT),.str aJ,.str aC,.str af,.int .i64 F,U,Y,aa]]:=.cons ab .nil;have bk:j7 w d a r=(dK (fD d a) a [125] [] (aN+1)).map (iS 13 [] [S] [o]):=by simp only[j7,u,h,cv,ar,if_true]
    rw[bk];generalize bw:aN+1=n at aw⊢;have f:na dA d a n:=f.up om;refine b3.body SD (fun _=>Z) ?_;refine dq a n (a.tok n) [125] (b8 aw) om 0 ?_ (fun J=>?_) (fun J=>?_)
    ·exact Z
    ·refine Bb (P:=fun K az=>∃D,hY (iS 13 [] [S] [o] []) D/\K=.ret (.agg (D.map V.d))) (eN:=[.agg (jx 13 [] _ (.d .cC) (.d .cC)),kV 0 8 [_],.d .cC]) (Dj 13 [] _ ai au) 8 Z (gQ 8 _) Z Z (fun K az ak=>?_);obtain⟨D,k,rfl⟩:=ak;obtain⟨N,ba,bb,O,s,w,P,R,rfl⟩:=k.eight;refine a6 1 (ei (by rw[dK,if_pos J];rfl) k)
    ·refine b5.less (eh:=[(0,.bp 0 0),(1,cE [44]),(2,cE [125]),(3,.fn qJ [] [.bp 1 0,.bp 7 0,.bp 5 0])]) ⟨Z,Z,Z,Z,tv⟩ ?_;refine b5.gone ?_;refine b5.iter (fun _:Nat×List cV×List FE=>[(0,.bp 0 0),(1,cE [44]),(2,cE [125]),(3,.fn qJ [] [.bp 1 0,.bp 7 0,.bp 5 0])])
      (fun g=>[e8 a g.1,.box [.bp 0 0],.box jz,.box (jx 13 [] (.ps aM 0 5 1 [[.int .i64 (Yn aB),.str aE,.str tn,aI,aP]]) (.d .cC) (.d .cC)),.box [b6 aT,cE aJ,cE aC,cE af,.d (.int .i64 F),.d U,.d Y,.d aa],.box [kV 8 9 (Hx g.2.2)],o7 (g.2.1.map cV.n),.box [.map 6],kO 9 (Hx g.2.2)]) (fun g=>a.ts.length-g.1)
      (fun g=>n<=g.1/\g.1<a.ts.length/\g.2.2.length<=g.1/\kr g.2.1 g.2.2/\(g.2.2.map FE.n).Nodup/\(∀ao∈g.2.1,ao.val.length<=1)/\∃z,a.ts.length-g.1<=z/\eY (fD d a) a [125] a.ts.length [] n=eY (fD d a) a [125] z g.2.1 g.1) ?_ (n,[],[]) ⟨Yl _,aw,Ys _,.nil,List.nodup_nil,by simp,_,by show a.ts.length-n<=a.ts.length;omega,rfl⟩
     rintro⟨b,L,E⟩ ⟨aV,aQ,aY,aO,aK,aG,z,aD,aU⟩;have bv:n<=b:=aV;have aS:b<a.ts.length:=aQ;have B:E.length<=b:=aY;have aA:kr L E:=aO;have aW:(E.map FE.n).Nodup:=aK;have bo:∀ao∈L,ao.val.length<=1:=aG;have bz:a.ts.length-b<=z:=aD;have p:eY (fD d a) a [125] a.ts.length [] n=eY (fD d a) a [125] z L b:=aU;clear aV aQ aY aO aK aG aD aU;obtain⟨z,rfl⟩:∃bm,z=bm+1:=⟨z-1,om⟩;have br:=aA.names;have c:(dK (fD d a) a [125] [] n).map (iS 13 [] [S] [o])=(eY (fD d a) a [125] (z+1) L b).map (iS 13 [] [S] [o]):=by rw[dK,if_neg (by rw[J];decide),p]
     rw[eY]at c p;refine b3.body W4 (fun _=>Z) ?_;repeat refine b1 ?_
     refine o8 a Q b aS (L.map cV.n) 0 6 dc Z Z (fun j e=>?_) (fun j e=>?_) (fun j=>?_)
     ·have ae:b+1<a.ts.length:=Q.go b _ (b8 aS) om;repeat refine b1 ?_
      refine lp a (b+1) _ (b8 ae) om 0 ?_ (fun i=>?_) (fun i=>?_)
      ·exact Z
      ·have aL:b+1+1<a.ts.length:=Q.go (b+1) _ (b8 ae) om;repeat refine b1 ?_
       intro bf;refine kx Q [61,62] aL bf _ 0 ?_ (fun y T=>?_) (fun y be=>?_)
       ·exact Z
       ·repeat refine b1 ?_
        refine f.call (b+1+1+1) om T 0 _ _ ?_ (fun aR D l M k=>?_) (fun W ax l M=>?_)
        ·exact Z
        ·obtain⟨bq,ac⟩:=f.lt _ _ _ om T M;obtain⟨N,ba,bb,O,s,ad,P,R,rfl⟩:=k.eight;intro bB;repeat refine b4 ?_
         intro m;repeat refine b4 ?_
         intro bC;have I:kr (L++[⟨(a.tok b).text,(a.tok (b+1)).text,eM,false,[aR]⟩]) (E++[TM (a.tok b).text (a.tok (b+1)).text m [.int .i64 (Yn N),.str ba,.str bb,.str O,.int .i64 s,ad,P,R]]):=aA.snoc rfl rfl rfl (.mk .nil .nil) (.ps (.cons k .nil));have q:=ub (x:=TM (a.tok b).text (a.tok (b+1)).text m [.int .i64 (Yn N),.str ba,.str bb,.str O,.int .i64 s,ad,P,R]) aW br e;have H:∀ao∈L++[(⟨(a.tok b).text,(a.tok (b+1)).text,eM,false,[aR]⟩:cV)],ao.val.length<=1:=by
          intro ao v;rcases Yp.1 v with v|v
          ·exact bo ao v
          ·simp only[Yv]at v;subst v;exact Yl _
         have aH:fD d a L b=.ok (L++[⟨(a.tok b).text,(a.tok (b+1)).text,eM,false,[aR]⟩]) l:=by simp only[fD,dS,dy,j,i,ne_eq,not_true,if_false,e,ep,cv,y,if_true,M,PR.map]
         rw[aH]at c p;dsimp only at c p;rcases E with _|⟨ap,x⟩;all_goals
          first
           |refine a7 rfl (a7 ⟨Yo rfl,Yo rfl⟩ (a1 rfl ?_))
           |refine a7 rfl (a7 ⟨rfl,rfl,by simp,Yl _,Cx (by simp only[Ym,Yt]at B⊢;omega) (Yl _) (Yo rfl)⟩ (a1 rfl (a1 (vA _) ?_)))
          refine dq a l (a.tok l) [125] (b8 ac) om 0 ?_ (fun A=>?_) (fun A=>?_)
          ·exact Z
          ·rw[if_pos A]at c;first
            |refine b3.two (eN:=[.agg (jx 13 [] _ (.d .cC) (.d .cC)),kV 1 8 [_],.ms 0 9 0 1 1]) (P:=fun K _ _=>∃D,hY (iS 13 [] [S] [o] _) D/\K=.ret (.agg (D.map V.d))) ((rP 13 [] _ ai au I q H (Yl _) 1 rfl dc).mono (fun K aX J=>by obtain⟨n,az,aj,aq,av,an,am⟩:=J;exact⟨n,az,aj,an,aq,av,am⟩)) 10 11 dc rfl rfl (fs 0 9 _) (gQ 8 _) rfl rfl (fun K bi bh J=>?_)
            |refine b3.two (eN:=[.agg (jx 13 [] _ (.d .cC) (.d .cC)),kV 1 8 [_],.ms 0 9 0 ((x.map pe).length+1+1) ((x.map pe).length+1+1)]) (P:=fun K _ _=>∃D,hY (iS 13 [] [S] [o] _) D/\K=.ret (.agg (D.map V.d))) ((rP 13 [] _ ai au I q H (Yl _) ((x.map pe).length+1+1) sm (by simp only[Ym,Yt]at B⊢;omega)).mono (fun K aX J=>by obtain⟨n,az,aj,aq,av,an,am⟩:=J;exact⟨n,az,aj,an,aq,av,am⟩)) 10 11 dc (Dk ap x (TM (a.tok b).text (a.tok (b+1)).text m _)) rfl (fs 0 9 _) (gQ 8 _) rfl rfl (fun K bi bh J=>?_)
           obtain⟨D,k,rfl⟩:=J;obtain⟨N,ba,bb,O,s,w,P,R,rfl⟩:=k.eight;refine a6 1 (ei (by rw[c];rfl) k)
          ·rw[if_neg (by rw[A];decide)]at c p;intro bg;refine kx Q [44] ac bg _ 0 ?_ (fun al aF=>?_) (fun al be=>?_)
           ·exact Z
           ·rw[x6 al]at p;refine⟨(l+1,_,_),⟨by show n<=l+1;omega,aF,by simp only[Yw,Ym,Yq]at B⊢;omega,I,q,H,z,by show a.ts.length-(l+1)<=z;omega,p⟩,by show a.ts.length-(l+1)<a.ts.length-b;omega,.pick 8 [0,1,2,3,4,5,6,7,10] ⟨rfl,rfl,rfl,rfl,tv⟩ rfl rfl rfl rfl rfl dc ⟨rfl,rfl,rfl,rfl,rfl,rfl,rfl,rfl,rfl,rfl,by first|exact xf (TM (a.tok b).text (a.tok (b+1)).text m _) rfl|exact uc ap x (TM (a.tok b).text (a.tok (b+1)).text m _) rfl,zz _ rfl,Ld L ⟨(a.tok b).text,(a.tok (b+1)).text,eM,false,[aR]⟩,j2 _ _ (io _),rfl,rfl,by first|exact xg (TM (a.tok b).text (a.tok (b+1)).text m _)|exact ud ap x (TM (a.tok b).text (a.tok (b+1)).text m _),pd _ _ _,tv⟩,rfl,rfl⟩
           ·refine a6 1 (cS (by rw[c];simp only[cv,al,if_false,Yr,PR.map]))
        ·refine a6 1 (cS (by rw[c];simp only[fD,dS,dy,j,i,ne_eq,not_true,if_false,e,ep,cv,y,if_true,M,PR.map]))
       ·refine a6 1 (cS (by rw[c];simp only[fD,dS,dy,j,i,ne_eq,not_true,if_false,e,ep,cv,y,Yr,PR.map]))
      ·refine a6 1 (cS (by rw[c];simp only[fD,dS,dy,j,i,ne_eq,not_true,not_false_eq_true,if_false,e,if_true,PR.map]))
     ·refine a6 1 (cS (by rw[c];simp only[fD,dS,j,ne_eq,not_true,if_false,e,if_true,PR.map]))
     ·refine a6 1 (cS (by rw[c];simp only[fD,dS,j,ne_eq,not_false_eq_true,if_true,PR.map]))
   ·refine a6 1 (cS (by simp only[j7,u,h,cv,ar,if_false,Yr]))
  ·refine a6 1 (cS (by simp only[j7,u,h]))
 ·refine a6 1 (cS (by simp only[j7,u]))
abbrev iD(c:Rd)(lo:Nat)(fn:Nat->PR Ex):Prop:=∀a d b,lo<=a->a<c.ts.length->fn a=.ok d b->a<b/\b<c.ts.length
abbrev JZ(c:Rd)(lo:Nat)(fn:Nat->PR Ty):Prop:=∀a d b,lo<=a->a<c.ts.length->fn a=.ok d b->a<b/\b<c.ts.length
theorem jy{b:Rd}(j:b.Wf){a:Nat->PR Ex}{lo:Nat}(d:iD b lo a){h:List UInt8}{p c:Nat}{g:Ex}(f:lo<=p)(e:p<b.ts.length)(i:ep a b h p=.ok g c):p<c/\c<b.ts.length:=Lh j d f e (.inr i)
theorem ny{a:Rd}(i:a.Wf){h:List UInt8}{p b:Nat}{g:Unit}(d:p<a.ts.length)(f:cv a [h] p=.ok g b):p<b/\b<a.ts.length:=by
 have c:=c9 _ _ _ f;have e:=dJ i _ _ _ d f;simp only[Ym,Yq]at c;exact⟨om,e⟩
theorem Rs{d:Rd}(i:d.Wf){b:Nat->PR Ex}{lo:Nat}(c:iD d lo b):iD d lo (sn b d):=by
 intro t r v l e a;rw[sn]at a;split at a
 ·cases a
 rename_i s k h;obtain⟨q,n⟩:=nx i e h;split at a
 ·cases a
 rename_i u o g;obtain⟨w,m⟩:=jy i c om n g;obtain⟨p,f,_⟩:=hG a;obtain⟨x,j⟩:=jy i c om m f;exact⟨om,j⟩
theorem Pw{e:Rd}(n:e.Wf){f:Nat->PR Ty}{d:Nat->PR Ex}{lo:Nat}(h:JZ e lo f)(c:iD e lo d):iD e lo (l9 f d e):=by
 intro D B o r g a;rw[l9]at a;split at a
 ·cases a
 rename_i s i k;obtain⟨A,x⟩:=j3 n (fun l y o v=>h l y o om) g k;split at a
 ·cases a
 rename_i w m j;obtain⟨E,u⟩:=c i w m om x j;split at a
 ·cases a
 rename_i p t b;obtain⟨F,q⟩:=jy n c om u b;obtain⟨p,b,_⟩:=hG a;obtain⟨C,z⟩:=jy n c om q b;exact⟨om,z⟩
theorem MZ{h:Rd}(e:h.Wf){i:Nat->PR Ty}{f:Nat->PR Ex}{lo:Nat}(l:JZ h lo i)(j:iD h lo f):iD h lo (j7 i f h):=by
 intro z G q m c a;rw[j7]at a;split at a
 ·cases a
 rename_i s g d;obtain⟨v,p⟩:=j3 e (fun t C q A=>l t C q om) c d;split at a
 ·cases a
 rename_i B k o;obtain⟨E,n⟩:=j g B k om p o;split at a
 ·cases a
 rename_i u y b;obtain⟨I,w⟩:=ny e n b;obtain⟨u,b,_⟩:=hG a;have:=xi e (lo:=lo) (fun v z x q m c a=>?_) om w b
 ·exact⟨om,this.2⟩
 ·rw[fD]at a;split at a
  ·cases a
  rename_i s g d;obtain⟨v,p⟩:=ox e c d;split at a
  ·cases a
  rename_i F k r;obtain⟨E,n⟩:=nx e p r;obtain⟨u,b,_⟩:=hG a;obtain⟨H,D⟩:=jy e j om n b;exact⟨om,D⟩
theorem Px{f:Rd}(d:f.Wf){g:Nat->PR Ty}{e:Nat->PR Ex}{lo:Nat}(j:JZ f lo g)(c:iD f lo e):iD f lo (j8 g e f):=by
 intro J H n u i b;rw[j8]at b;split at b
 ·cases b
 rename_i s t l;obtain⟨F,A⟩:=j3 d (fun m C n y=>j m C n om) i l;split at b
 ·cases b
 rename_i K E k;obtain⟨M,x⟩:=nx d A k;split at b
 ·cases b
 rename_i h v a;obtain⟨N,p⟩:=ny d x a;split at b
 ·cases b
 rename_i h z a;obtain⟨I,D⟩:=nx d p a;split at b
 ·cases b
 rename_i h w a;obtain⟨G,r⟩:=jy d c om D a;split at b
 ·cases b
 rename_i h q a;obtain⟨O,B⟩:=jy d c om r a;obtain⟨h,a,_⟩:=hG b;obtain⟨L,o⟩:=jy d c om B a;exact⟨om,o⟩
theorem Py{h:Rd}(f:h.Wf){j:Nat->PR Ty}{g:Nat->PR Ex}{lo:Nat}(n:JZ h lo j)(k:iD h lo g):iD h lo (funcF j g h):=by
 intro B E y p b a;rw[funcF]at a;split at a
 ·cases a
 rename_i s o d;obtain⟨v,t⟩:=ny f b d;split at a
 ·cases a
 rename_i G l r;have q:=xi f (lo:=lo) (fun v B A y p b a=>?_) om t r
 ·obtain⟨u,c,_⟩:=hG a;obtain⟨H,z⟩:=jy f k om q.2 c;exact⟨om,z⟩
 ·rw[ee]at a;split at a
  ·cases a
  rename_i s o d;obtain⟨v,t⟩:=ox f b d;split at a
  ·cases a
  rename_i w l e;obtain⟨I,C⟩:=ny f t e;split at a
  ·cases a
  rename_i w i e;obtain⟨J,x⟩:=n l w i om C e;split at a
  ·rename_i m;obtain⟨u,c,_⟩:=hG a;obtain⟨F,D⟩:=k (i+1) u y om (f.step x m) c;exact⟨om,D⟩
  ·cases a;exact⟨om,x⟩
theorem M0{c:Rd}(m:c.Wf){h:Nat->PR Ty}{lo:Nat}(j:JZ c lo h){s:List UInt8}{p i:Nat}{o:Ex}(q:lo<=p)(e:p<c.ts.length)(d:hF h c s p=.ok o i):p<=i/\i<c.ts.length:=by
 rw[hF]at d;split at d
 ·cases d
 ·rename_i w y x g b;have f:p<=g/\g<c.ts.length:=by
   split at b
   ·rename_i l;obtain⟨n,a,_⟩:=hG b;obtain⟨v,t⟩:=nx m (m.step e l) a;exact⟨om,t⟩
   ·cases b;exact⟨Yl _,e⟩
  split at d
  ·obtain⟨n,a,_⟩:=hG d;have:=wY m (fun k u i r=>j k u i om) f.2 a;exact⟨om,this.2⟩
  ·cases d;exact f
theorem Bh{l:Rd}(f:l.Wf){v:Nat->PR Ty}{q:Nat->PR Ex}{lo:Nat}(n:JZ l lo v)(k:iD l (lo+1) q):iD l lo (fb v q l):=by
 intro o E A t c a;have r:(l.tok o).kind≠0->o+1<l.ts.length:=fun a=>f.go o _ (b8 c) a;rw[fb]at a;split at a
 ·exact Lf f c a
 split at a
 ·cases a;exact⟨om,r om⟩
 split at a
 ·have:=M0 f n om (r om) a;exact⟨om,this.2⟩
 split at a
 ·rename_i b;have:=f.step c b;cases a;exact⟨om,this⟩
 split at a
 ·rename_i b;have:=f.step c b;cases a;exact⟨om,this⟩
 split at a
 ·rename_i b;obtain⟨w,m⟩:=uf f k om (f.step c b) a;exact⟨om,m⟩
 split at a
 ·rename_i b;have e:=f.step c b;split at a
  ·cases a
  rename_i s h i;obtain⟨w,m⟩:=nx f e i;split at a
  ·cases a
  rename_i z j g;obtain⟨B,u⟩:=jy f k om m g;obtain⟨p,d,_⟩:=hG a;obtain⟨D,x⟩:=ny f u d;exact⟨om,x⟩
 split at a
 ·rename_i b;have e:=f.step c b;split at a
  ·cases a
  rename_i s h i;obtain⟨w,m⟩:=n (o+1) s h om e i;split at a
  ·cases a
  rename_i z j g;obtain⟨B,u⟩:=ny f m g;obtain⟨p,d,_⟩:=hG a;have:=xi f (lo:=lo+1) (fun w o C A t c a=>by
   obtain⟨p,d,_⟩:=hG a;exact k o p A t c d) om u d
  exact⟨om,this.2⟩
 split at a
 ·rename_i b;have e:=f.step c b;split at a
  ·cases a
  rename_i s h i;obtain⟨w,m⟩:=k (o+1) s h om e i;split at a
  ·cases a
  rename_i z j g;have y:h<=j/\j<l.ts.length:=by
   split at g
   ·rename_i b;obtain⟨p,d,_⟩:=hG g;obtain⟨B,u⟩:=n (h+1) p j om (f.step m b) d;exact⟨om,u⟩
   ·cases g;exact⟨Yl _,m⟩
  obtain⟨p,d,_⟩:=hG a;obtain⟨D,x⟩:=ny f y.2 d;exact⟨om,x⟩
 ·cases a
theorem TN{f:Rd}(l:f.Wf){i:Nat->PR Ty}{h:Nat->PR Ex}{lo:Nat}(e:JZ f (lo+1) i)(d:iD f (lo+1) h)(n:iD f lo (MI i h f)):iD f lo (yE i h f):=by
 intro g k j o m b;have c:(f.tok g).kind=5->g+1<f.ts.length:=fun b=>l.go g _ (b8 m) om;rw[yE]at b;split at b
 ·rename_i a;have:=Rs l d (g+1) k j om (c a.1) b;exact⟨om,this.2⟩
 split at b
 ·rename_i a;have:=Pw l e d (g+1) k j om (c a.1) b;exact⟨om,this.2⟩
 split at b
 ·rename_i a;have:=MZ l e d (g+1) k j om (c a.1) b;exact⟨om,this.2⟩
 split at b
 ·rename_i a;have:=Px l e d (g+1) k j om (c a.1) b;exact⟨om,this.2⟩
 split at b
 ·rename_i a;have:=Py l e d (g+1) k j om (c a.1) b;exact⟨om,this.2⟩
 exact n g k j o m b
theorem tw{o:FuncId}{c:Rd}{p:Nat}{d:PR Ex}(i:b3 C cn o [.bp 0 0] [e8 c p] (Ip c d))(f:Nat){σ:VS}{K:cZ->VS->Prop}(e:nth σ f=some (e8 c p))(j:∀n h b,d=.ok n b->hY n h->K (.ret (.agg (h.map V.d))) (σ.set f (e8 c b))) 
  (m:∀a r b,d=.bad a r->K (.fO (fC a r)) (σ.set f (e8 c b))):b3 C cn o [.bp f 0] σ K:=by
 refine b3.one (eN:=[.bp 0 0]) (P:=MJ c d) i f e Z Z Z (fun t q i=>?_);cases d with
 |ok s b=>
  obtain⟨rfl,h,k,rfl⟩:=i;exact j s h b Z k
 |bad a l=>
  obtain⟨b,rfl,rfl⟩:=i;exact m a l b Z
def yG:List qx:=[⟨cE [108,101,116],.fn rn [.bp 0 0] [],0⟩,⟨cE [105,102],.fn jY [.bp 0 0] [],1⟩,⟨cE [109,97,116,99,104],.fn oW [.bp 0 0] [],2⟩,⟨cE [102,111,108,100],.fn qb [.bp 0 0] [],3⟩,⟨cE [102,110],.fn lP [.bp 0 0] [],4⟩]
theorem J0{a:List UInt8}(d:a≠[108,101,116])(b:a≠[105,102])(f:a≠[109,97,116,99,104])(c:a≠[102,111,108,100])(e:a≠[102,110]):fR .string (cE a) yG 0=some none:=by
 unfold yG;rw[fL,decide_eq_false d,fL,decide_eq_false b,fL,decide_eq_false f,fL,decide_eq_false c,fL,decide_eq_false e];rfl
theorem J1{c:Rd}(v:c.Wf){u:Nat->PR Ty}{t:Nat->PR Ex}{p:Nat}(r:fU u c (p+1))(k:na dA t c (p+1))(s:na pO (MI u t c) c p)(h:p<c.ts.length):
  b3 C cn dA [.bp 0 0] [e8 c p] (Ip c (yE u t c p)):=by
 have B:=v.len;refine cB ?_;refine b7 none Z ?_;refine b7 none Z ?_;refine b7 none Z ?_;refine b7 none Z ?_;refine b7 none Z ?_;refine mL c p _ (b8 h) 0 Z ?_;by_cases b:(c.tok p).kind=5
 ·refine a8 (xj b) ?_;have i:p+1<c.ts.length:=v.go p _ (b8 h) om;have j:eR (c.tok p) p=p+1:=by rw[eR,if_neg om]
  by_cases t1:(c.tok p).text=[108,101,116]
  ·refine b7 (some (0,.fn rn [.bp 0 0] [])) (show fR .string (cE (c.tok p).text) yG 0=_ by rw[t1];rfl) ?_;refine dR c p _ (b8 h) om 0 Z ?_;rw[j];refine tw (MY v k i) 0 Z (fun w y q d a=>?_) (fun f l q d=>?_)
   ·obtain⟨x,A,z,n,e,g,o,m,rfl⟩:=a.eight;refine a6 1 (ei (by simp only[yE,b,t1,true_and,if_true,if_false];exact d) a)
   ·refine a6 1 (cS (by simp only[yE,b,t1,true_and,if_true,if_false];exact d))
  by_cases t2:(c.tok p).text=[105,102]
  ·refine b7 (some (1,.fn jY [.bp 0 0] [])) (show fR .string (cE (c.tok p).text) yG 0=_ by rw[t2];rfl) ?_;refine dR c p _ (b8 h) om 0 Z ?_;rw[j];refine tw (JT v r k i) 0 Z (fun w y q d a=>?_) (fun f l q d=>?_)
   ·obtain⟨x,A,z,n,e,g,o,m,rfl⟩:=a.eight;refine a6 1 (ei (by simp only[yE,b,t1,t2,true_and,if_true,if_false];exact d) a)
   ·refine a6 1 (cS (by simp only[yE,b,t1,t2,true_and,if_true,if_false];exact d))
  by_cases t3:(c.tok p).text=[109,97,116,99,104]
  ·refine b7 (some (2,.fn oW [.bp 0 0] [])) (show fR .string (cE (c.tok p).text) yG 0=_ by rw[t3];rfl) ?_;refine dR c p _ (b8 h) om 0 Z ?_;rw[j];refine tw (HC v r k i) 0 Z (fun w y q d a=>?_) (fun f l q d=>?_)
   ·obtain⟨x,A,z,n,e,g,o,m,rfl⟩:=a.eight;refine a6 1 (ei (by simp only[yE,b,t1,t2,t3,true_and,if_true,if_false];exact d) a)
   ·refine a6 1 (cS (by simp only[yE,b,t1,t2,t3,true_and,if_true,if_false];exact d))
  by_cases t4:(c.tok p).text=[102,111,108,100]
  ·refine b7 (some (3,.fn qb [.bp 0 0] [])) (show fR .string (cE (c.tok p).text) yG 0=_ by rw[t4];rfl) ?_;refine dR c p _ (b8 h) om 0 Z ?_;rw[j];refine tw (JU v r k i) 0 Z (fun w y q d a=>?_) (fun f l q d=>?_)
   ·obtain⟨x,A,z,n,e,g,o,m,rfl⟩:=a.eight;refine a6 1 (ei (by simp only[yE,b,t1,t2,t3,t4,true_and,if_true,if_false];exact d) a)
   ·refine a6 1 (cS (by simp only[yE,b,t1,t2,t3,t4,true_and,if_true,if_false];exact d))
  by_cases t5:(c.tok p).text=[102,110]
  ·refine b7 (some (4,.fn lP [.bp 0 0] [])) (show fR .string (cE (c.tok p).text) yG 0=_ by rw[t5];rfl) ?_;refine dR c p _ (b8 h) om 0 Z ?_;rw[j];refine tw (JY v r k i) 0 Z (fun w y q d a=>?_) (fun f l q d=>?_)
   ·obtain⟨x,A,z,n,e,g,o,m,rfl⟩:=a.eight;refine a6 1 (ei (by simp only[yE,b,t1,t2,t3,t4,t5,true_and,if_true,if_false];exact d) a)
   ·refine a6 1 (cS (by simp only[yE,b,t1,t2,t3,t4,t5,true_and,if_true,if_false];exact d))
  refine b7 none (show fR .string (cE (c.tok p).text) yG 0=_ from J0 t1 t2 t3 t4 t5) ?_;refine s.call p (Yl _) h 0 _ _ Z (fun w y q d a=>?_) (fun f l q d=>?_)
  ·obtain⟨x,A,z,n,e,g,o,m,rfl⟩:=a.eight;refine a6 1 (ei (by simp only[yE,b,t1,t2,t3,t4,t5,true_and,if_false];exact d) a)
  ·refine a6 1 (cS (by simp only[yE,b,t1,t2,t3,t4,t5,true_and,if_false];exact d))
 ·refine a1 (zB b) ?_;refine s.call p (Yl _) h 0 _ _ Z (fun w y q d a=>?_) (fun f l q d=>?_)
  ·obtain⟨x,A,z,n,e,g,o,m,rfl⟩:=a.eight;refine a6 1 (ei (by simp only[yE,b,false_and,if_false];exact d) a)
  ·refine a6 1 (cS (by simp only[yE,b,false_and,if_false];exact d))
theorem TO{a:Rd}(c:a.Wf)(d:a.Ng){h:Nat->PR Ty}{e:Nat->PR Ex}{lo:Nat}(g:fU h a lo)(b:na dA e a (lo+1)):na pO (MI h e a) a lo:=by
 have n:na kp (fb h e a) a lo:=na.of (fun k l i m f o=>Bh c (fun k l i o=>g.lt k l i om) (fun k l i o=>b.lt k l i om) k l i m f o) (fun k m f=>Bg c d ⟨fun j u i o=>g.lt j u i om,fun j o=>g.call j om⟩ (b.up om) f);have p:=Pt c n b;have q:=Vo c d p a.ts.length lo a.ts.length (Yl _) om om;have s:=Vj c q;have t:=Vk c s;have r:=Vn c t a.ts.length lo a.ts.length (Yl _) om om;exact WJ c (Vl c r)
theorem SF{a:Rd}(h:a.Wf)(i:a.Ng):∀(g lo:Nat),a.ts.length-lo<=g->na dA (zy a g) a lo:=by
 intro g;induction g with
 |zero=>intro lo k;exact⟨fun e n j c b=>om,fun e c b=>om⟩
 |succ g f=>
  intro lo k;have d:na pO (MI (dG a a.ts.length) (zy a g) a) a lo:=TO h i (ER h a.ts.length lo om) (f (lo+1) om);have m:=ER h a.ts.length lo om;refine na.of (fun e l j c b k=>TN h (lo:=lo) (fun e l j k=>m.lt e l j om) (f (lo+1) om).lt d.lt e l j c b k) (fun e c b=>?_);exact J1 h (ER h a.ts.length (e+1) om) (f (e+1) om) (d.up c) b
def Rd.Nm(b:Rd):Prop:=∀a,a<b.ts.length->((b.tok a).kind=1->dp (b.tok a).text=true)/\((b.tok a).kind=2->jH (b.tok a).text=true)
theorem Bi{c:List UInt8}{R:Rd}(d:kJ c=.ok R.ts):R.Nm:=by
 obtain⟨_,_,_,_,b⟩:=K6 d;intro g a;have:=b8 a;obtain⟨f,e,_⟩:=b _ (List.mem_of_getElem? this);exact⟨f,e⟩
def Good(d:Nat->PR Ty)(e:Rd)(lo:Nat):Prop:=∀a c b,lo<=a->a<e.ts.length->d a=.ok c b->j4 c/\di c+a<=b/\a<b/\b<e.ts.length
theorem HD{l a:List Ty}(f:l.Perm a):cL l=cL a:=by
 induction f with
 |nil=>rfl
 |cons e _ b=>simp only[cL,b]
 |swap e g l=>simp only[cL];omega
 |trans _ _ d c=>rw[d,c]
theorem Cy{g:Nat->PR Ty}{i:Rd}(w:i.Wf){lo:Nat}(q:Good g i lo):
  ∀(n:Nat) (a:List Ty) (d:Nat) (l:List Ty) (k:Nat),lo<=d->d<i.ts.length->(∀f∈a,j4 f)->ec g i n a d=.ok l k->(∀f∈l,j4 f)/\cL l+d<=cL a+k/\k<i.ts.length:=by
 intro n;induction n with
 |zero=>intro a d l k _ _ _ b;cases b
 |succ n u=>
  intro a d l k t s v b;rw[ec]at b;cases h:g d with
  |bad y E=>rw[h]at b;cases b
  |ok o j=>
   rw[h]at b;obtain⟨r,A,z,m⟩:=q d o j t s h;have e:∀f∈a++[o],j4 f:=fun f hx=>by
    rcases Yp.1 hx with hx|hx
    ·exact v f hx
    ·simp at hx;subst hx;exact r
   have B:cL (a++[o])=cL a+di o:=by rw[hW];simp[cL]
   dsimp only at b;split at b
   ·rename_i p;obtain⟨x,F,D⟩:=u _ _ _ _ om (w.step m p) e b;exact⟨x,om,D⟩
   ·cases c:cv i [[93]] j with
    |bad y E=>rw[c]at b;cases b
    |ok G C=>
     rw[c]at b;cases b;have:=c9 _ _ _ c;exact⟨e,om,dJ w _ _ _ m c⟩
theorem vC{c:Nat->PR Ty}{b:Rd}(h:b.Wf){p:Nat}(g:Good c b p)(a:p<b.ts.length){l:List Ty}{e:Nat}(d:fA c b p=.ok l e):(∀i∈l,j4 i)/\cL l+p<=e/\e<b.ts.length:=by
 rw[fA]at d;split at d
 ·rename_i f;obtain⟨m,j,k⟩:=Cy h g _ _ _ _ _ om (h.step a f) sm d;simp only[cL]at j;exact⟨m,om,k⟩
 ·cases d;exact⟨by simp,by simp[cL],a⟩
structure Uv (oa:Bool) (l:List nB):Prop where
 name:∀x∈l,dp x.1=true
 all:∀x∈l,j4 x.2.1
 oa:oa=false->∀x∈l,x.2.2=false
 nd:(l.map (·.1)).Nodup
theorem Uv.snoc{a:Bool}{l:List nB}{n:List UInt8}{t:Ty}{o:Bool}(d:Uv a l)(h:dp n=true)(f:j4 t)(i:a=false->o=false)(g:n ∉ l.map (·.1)):Uv a (l++[(n,t,o)]):=by
 refine⟨fun x hx=>?_,fun x hx=>?_,fun b x hx=>?_,?_⟩
 ·rcases Yp.1 hx with hx|hx
  ·exact d.name x hx
  ·simp at hx;subst hx;exact h
 ·rcases Yp.1 hx with hx|hx
  ·exact d.all x hx
  ·simp at hx;subst hx;exact f
 ·rcases Yp.1 hx with hx|hx
  ·exact d.oa b x hx
  ·simp at hx;subst hx;exact i b
 ·rw[Yx,List.nodup_append];refine⟨d.nd,by simp,?_⟩;intro m e k c j;simp only[Yz,YF,Yv]at c;subst j;subst c;exact g e
theorem za{l:Nat->PR Ty}{e:Rd}(w:e.Wf)(F:e.Nm){lo:Nat}(B:Good l e lo)(i n:List UInt8)(a:Bool):
  ∀(z:Nat) (b:List nB) (c:Nat) (x:List nB) (t:Nat),lo<=c->c<e.ts.length->Uv a b->cW l e i n a z b c=.ok x t->Uv a x/\cL (fI x)+c<=cL (fI b)+t/\t<e.ts.length:=by
 intro z;induction z with
 |zero=>intro b c x t _ _ _ d;cases d
 |succ z G=>
  intro b c x t R p H d;rw[cW]at d;split at d
  ·cases d
  ·rename_i k;have k:(e.tok c).kind=1:=by simpa using k
   have h:c+1<e.ts.length:=w.go c _ (b8 p) om;split at d
   ·cases d
   ·rename_i q;have s:(if a&&cD (e.tok (c+1)) [63]then c+1+1 else c+1)<e.ts.length:=by
     split
     ·rename_i r;rw[Yy]at r;exact w.step h r.2
     ·exact h
    have K:c+1<=(if a&&cD (e.tok (c+1)) [63]then c+1+1 else c+1):=by split<;>omega
    cases g:cv e [[58]] (if a&&cD (e.tok (c+1)) [63]then c+1+1 else c+1)with
    |bad I M=>rw[g]at d;cases d
    |ok T v=>
     rw[g]at d;dsimp only at d;have u:=dJ w _ _ _ s g;have J:=c9 _ _ _ g;cases m:l v with
     |bad I M=>rw[m]at d;cases d
     |ok A o=>
      rw[m]at d;dsimp only at d;obtain⟨C,Q,O,y⟩:=B v A o om u m;have j:Uv a (b++[((e.tok c).text,A,a&&cD (e.tok (c+1)) [63])]):=H.snoc ((F c p).1 k) C (fun D=>by rw[D];rfl) q;have S:cL (fI (b++[((e.tok c).text,A,a&&cD (e.tok (c+1)) [63])]))=cL (fI b)+di A:=by
       simp only[fI,Yx,hW,Yz,YF,cL,Nat.add_zero]
      split at d
      ·rename_i E;cases d;exact⟨j,om,w.step y E⟩
      ·cases f:cv e [i] o with
       |bad I M=>rw[f]at d;cases d
       |ok T P=>
        rw[f]at d;have L:=c9 _ _ _ f;obtain⟨N,V,U⟩:=G _ _ _ _ om (dJ w _ _ _ y f) j d;exact⟨N,om,U⟩
theorem rT{j:Nat->PR Ty}{g:Rd}(v:g.Wf)(t:g.Nm){p:Nat}(q:Good j g p){c d:List UInt8}{a:Bool}(b:p<g.ts.length){l:List nB}{u:Nat}(k:ea j g c d a p=.ok l u):
  V6 a l/\(∀f∈fI l,j4 f)/\cL (fI l)+p<=u/\u<g.ts.length:=by
 rw[ea]at k;split at k
 ·rename_i o;cases k;exact⟨⟨by simp,List.Pairwise.nil,by simp⟩,by simp[fI],by simp[fI,cL],v.step b o⟩
 ·cases i:cW j g c d a g.ts.length [] p with
  |bad A B=>rw[i]at k;cases k
  |ok m z=>
   rw[i]at k;cases k;obtain⟨n,x,y⟩:=za v t q c d a _ _ _ _ _ (Yl _) b ⟨by simp,by simp,by simp,by simp⟩ i;have b:=dC (key:=fun f:nB=>f.1) m;have h:(fI (ct (·.1) m)).Perm (fI m):=b.map _;refine⟨⟨fun f e=>n.name f (b.subset e),gF n.nd,fun r f e=>n.oa r f (b.subset e)⟩,fun f e=>?_,?_,y⟩
   ·obtain⟨w,s,rfl⟩:=YE.1 (h.subset e);exact n.all w s
   ·rw[HD h];simp only[fI,YF,cL]at x⊢;omega
theorem M1{w:Nat->PR Ty}{o:Rd}(u:o.Wf)(x:o.Nm){h:Nat}{k:List UInt8}{I p m:Nat}{t:Ty}(g:Good w o p) 
  (d:h≠0->p<o.ts.length) (D:h=1->dp k=true) (K:h=2->jH k=true) (b:fH w o h k I p=.ok t m):j4 t/\di t+p<=m+1/\p<=m/\m<o.ts.length:=by
 obtain⟨B,F⟩:=K4 u (fun n t m v O P=>⟨(g n t m v O P).2.2.1,(g n t m v O P).2.2.2⟩) d b
 suffices j4 t/\di t+p<=m+1 from⟨this.1,this.2,B,F⟩
 unfold fH at b;split at b
 ·have d:=d om;split at b
  ·rename_i V e;cases b;refine⟨.mk (.base ?_) (by simp[eL,fI]),by simp[di,cL,rI];omega⟩;unfold rG at e;split at e
   ·cases e;omega
   ·split at e
    ·cases e;omega
    ·split at e
     ·cases e;omega
     ·split at e
      ·cases e;omega
      ·split at e
       ·cases e;omega
       ·cases e
  ·split at b
   ·obtain⟨v,a,rfl⟩:=fj b;rw[dl]at a;cases c:cv o [[91]] p with
    |bad H J=>rw[c]at a;cases a
    |ok M i=>
     rw[c]at a;dsimp only at a;have A:=c9 _ _ _ c;have l:=dJ u _ _ _ d c;cases G:w i with
     |bad H J=>rw[G]at a;cases a
     |ok t y=>
      rw[G]at a;dsimp only at a;obtain⟨f,j,r,z⟩:=g i t y om l G;cases s:cv o [[93]] y with
      |bad H J=>rw[s]at a;cases a
      |ok M T=>
       rw[s]at a;cases a;have N:=c9 _ _ _ s;exact⟨.mk .list (by simp[eL,fI];exact f),by simp[di,cL,rI];omega⟩
   ·split at b
    ·cases c:cv o [[40]] p with
     |bad H J=>rw[c]at b;cases b
     |ok M i=>
      rw[c]at b;dsimp only at b;have A:=c9 _ _ _ c;have l:=dJ u _ _ _ d c;cases E:ea w o [44] [41] true i with
      |bad H J=>rw[E]at b;cases b
      |ok W y=>
       rw[E]at b;dsimp only at b;obtain⟨f,j,r,z⟩:=rT u x (fun n t m D=>g n t m om) l E;obtain⟨v,a,rfl⟩:=fj b;obtain⟨L,Q,U,S⟩:=g y v m om z a;refine⟨.mk (.func f) (fun R hx=>?_),?_⟩
       ·simp only[eL,Yp,Yv]at hx;rcases hx with rfl|hx
        ·exact L
        ·exact j R hx
       ·simp only[di,cL,qR];omega
    ·cases b
 ·split at b
  ·have d:=d om;split at b
   ·obtain⟨v,a,rfl⟩:=fj b;obtain⟨f,j,r,z⟩:=rT u x g d a;exact⟨.mk (.O3 f) (by simpa [eL]using j),by simp only[di,cL,qR];omega⟩
   ·split at b
    ·obtain⟨v,a,rfl⟩:=fj b;obtain⟨f,j,r,z⟩:=rT u x g d a;exact⟨.mk (.V7 f) (by simpa [eL]using j),by simp only[di,cL,qR];omega⟩
    ·cases b
  ·split at b
   ·rename_i C;obtain⟨v,a,rfl⟩:=fj b;obtain⟨f,j,r⟩:=vC u g (d om) a;exact⟨.mk (.ref (.inl Z) (K C)) (by simpa [eL,fI]using f),by simp only[di,rI];omega⟩
   ·split at b
    ·rename_i C;have d:=d om;cases c:cv o [[58,58]] p with
     |bad H J=>rw[c]at b;cases b
     |ok M i=>
      rw[c]at b;dsimp only at b;have A:=c9 _ _ _ c;have l:=dJ u _ _ _ d c;split at b
      ·cases b
      ·rename_i q;have q:(o.tok i).kind=2:=by simpa using q
       obtain⟨v,a,rfl⟩:=fj b;obtain⟨f,j,r⟩:=vC u (fun n t m D=>g n t m om) (u.go i _ (b8 l) om) a;exact⟨.mk (.ref (.inr (D C)) ((x i l).2 q)) (by simpa [eL,fI]using f),by simp only[di,rI];omega⟩
    ·cases b
theorem M2{f:Rd}(n:f.Wf)(b:f.Nm):∀(d:Nat),Good (dG f d) f 0:=by
 intro d;induction d with
 |zero=>intro c k h _ _ e;cases e
 |succ d j=>
  intro c k h _ a e;rw[dG]at e;obtain⟨p,q,r,o⟩:=M1 n b (p:=c+1) (fun l k h _ m g=>j l k h (Ys _) m g) (fun i=>n.go c _ (b8 a) i) (b c a).1 (b c a).2 e;exact⟨p,om,om,o⟩
inductive fZ:Ex->Prop
 |mk {e:Ex} (h:gh e) (hk:∀x∈e.kids,fZ x):fZ e
def gi(fn:Nat->PR Ex)(d:Rd)(lo:Nat):Prop:=∀a c b,lo<=a->a<d.ts.length->fn a=.ok c b->fZ c/\dh c+a<=b/\a<b/\b<d.ts.length
theorem gi.up{fn:Nat->PR Ex}{d:Rd}{lo a:Nat}(g:gi fn d lo)(b:lo<=a):gi fn d a:=fun h f e c=>g h f e (Nat.le_trans b c)
def Uw(a:Nat)(p:cV):Nat:=c8 p.val+if a=8 then di p.ty else 0
def nz(a:Nat):List cV->Nat
 |[]=>0
 |p::b=>Uw a p+nz a b
theorem M3{e:Nat}{l a:List cV}(g:l.Perm a):nz e l=nz e a:=by
 induction g with
 |nil=>rfl
 |cons f _ b=>simp only[nz,b]
 |swap f h l=>simp only[nz];omega
 |trans _ _ d c=>rw[d,c]
theorem xl(d:Nat)(a b:List cV):nz d (a++b)=nz d a+nz d b:=by
 induction a with
 |nil=>simp[nz]
 |cons e a c=>simp only[YB,nz,c];omega
structure rU (k:Nat) (l:List cV):Prop where
 name:∀x∈l,dp x.n=true
 var:∀x∈l,if k=13 then dp x.v=true else x.v=[]
 ty:∀x∈l,if k=8 then j4 x.ty else x.ty=eM/\x.oa=false
 val:∀x∈l,∀e∈x.val,fZ e
 one:∀x∈l,x.val.length=if k=8/\x.oa=false then 0 else 1
 nd:(l.map cV.n).Nodup
theorem rU.nil(a:Nat):rU a []:=⟨by simp,by simp,by simp,by simp,by simp,by simp⟩
theorem rU.snoc{d:Nat}{l:List cV}{x:cV}(b:rU d l)(k:dp x.n=true)(i:if d=13 then dp x.v=true else x.v=[])(n:if d=8 then j4 x.ty else x.ty=eM/\x.oa=false)(j:∀o∈x.val,fZ o) 
  (m:x.val.length=if d=8/\x.oa=false then 0 else 1) (f:x.n ∉ l.map cV.n):rU d (l++[x]):=by
 have key:∀{g:cV->Prop},(∀c∈l,g c)->g x->∀c∈l++[x],g c:=fun q p c a=>by
  rcases Yp.1 a with a|a
  ·exact q c a
  ·simp at a;subst a;exact p
 refine⟨key b.name k,key b.var i,key b.ty n,key b.val j,key b.one m,?_⟩;rw[Yx,List.nodup_append];refine⟨b.nd,by simp,?_⟩;intro q h p e o;simp only[Yz,YF,Yv]at e;subst o;subst e;exact f h
theorem rU.perm{f:Nat}{l e:List cV}(d:rU f l)(b:e.Perm l):rU f e:=
 ⟨fun c a=>d.name c (b.mem_iff.1 a),fun c a=>d.var c (b.mem_iff.1 a),fun c a=>d.ty c (b.mem_iff.1 a),fun c a=>d.val c (b.mem_iff.1 a),fun c a=>d.one c (b.mem_iff.1 a),((b.map cV.n).nodup_iff).2 d.nd⟩
theorem rU.Pp{g:Nat}{l:List cV}(d:rU g l)(e:lA cV.n l):kM g (l.map cV.pc):=by
 refine⟨fun f b=>?_,?_,fun f b=>?_,fun f b=>?_⟩
 ·obtain⟨c,a,rfl⟩:=YE.1 b;exact d.name c a
 ·exact List.pairwise_map.2 e
 ·obtain⟨c,a,rfl⟩:=YE.1 b;exact d.var c a
 ·obtain⟨c,a,rfl⟩:=YE.1 b;exact d.ty c a
theorem M4{f:Nat}{l:List cV}(i:∀a∈l,a.val.length=if f=8/\a.oa=false then 0 else 1):(l.flatMap cV.val).length=if f=8 then xc (l.map cV.pc)else l.length:=by
 induction l with
 |nil=>split<;>rfl
 |cons a l c=>
  have g:=i a sm;have d:=c fun j e=>i j (by simp[e]);rw[List.flatMap_cons,Yw,g,d];by_cases b:f=8
  ·simp only[b,true_and,if_true];show _=(List.filter iB.oa (a.pc::List.map cV.pc l)).length;rw[List.filter_cons,xc];have h:a.pc.oa=a.oa:=rfl;rw[h];cases a.oa<;>simp<;>omega
  ·simp only[b,false_and,if_false,Ym];omega
theorem rU.size(c:Nat)(l:List cV):cL (if c=8 then(l.map cV.pc).map iB.ty else [])+c8 (l.flatMap cV.val)=nz c l:=by
 induction l with
 |nil=>split<;>simp[cL,c8,nz]
 |cons d l b=>
  rw[List.flatMap_cons,mR,nz,Uw,<-b];by_cases a:c=8
  ·simp only[a,if_true,Yz,cL];show di d.ty+_+_=_;omega
  ·simp only[a,if_false,cL];omega
theorem vD{k:Nat}{n:List UInt8}{types:List Ty}{kids:List Ex}{l:List cV}:dh (iS k n types kids l)=1+cL types+c8 kids+nz k l:=by
 rw[iS,dh,hW,mR];have a:=rU.size k (ct cV.n l);rw[M3 (dC l)]at a;omega
theorem x7{d:Nat}{n:List UInt8}{types:List Ty}{kids:List Ex}{l:List cV}(f:rU d l)(b:∀a∈kids,fZ a):∀a∈(iS d n types kids l).kids,fZ a:=by
 intro a hx;rcases Yp.1 hx with hx|hx
 ·exact b a hx
 ·obtain⟨e,c,hx⟩:=List.mem_flatMap.1 hx;exact(f.perm (dC l)).val e c a hx
theorem x8{b:Nat}{l:List cV}(a:rU b l):kM b ((ct cV.n l).map cV.pc):=(a.perm (dC l)).Pp (gF a.nd)
theorem Bj{a:Nat}{l:List cV}(b:rU a l):((ct cV.n l).flatMap cV.val).length=if a=8 then xc ((ct cV.n l).map cV.pc)else((ct cV.n l).map cV.pc).length:=by
 rw[M4 (b.perm (dC l)).one,Yt]
theorem M5{α:Type}{step:α->Nat->PR α}{g:Rd}(y:g.Wf){i:List UInt8}{lo:Nat}{I:α->Nat->Prop}(l:∀e a c,I e a->a<=c->I e c)(u:∀e a b c,lo<=a->a<g.ts.length->I e a->step e a=.ok b c->I b c/\a<c/\c<g.ts.length):
  ∀(o:Nat) (e:α) (a:Nat) (b:α) (c:Nat),lo<=a->a<g.ts.length->I e a->eY step g i o e a=.ok b c->I b c/\a<c/\c<g.ts.length:=by
 intro o;induction o with
 |zero=>intro e a b c _ _ _ d;cases d
 |succ o w=>
  intro e a b c q p s d;rw[eY]at d;cases h:step e a with
  |bad A D=>rw[h]at d;cases d
  |ok m j=>
   rw[h]at d;dsimp only at d;obtain⟨k,B,n⟩:=u e a m j q p s h;split at d
   ·rename_i r;cases d;exact⟨l _ _ _ k (Nat.le_succ _),om,y.step n r⟩
   ·cases f:cv g [[44]] j with
    |bad A D=>rw[f]at d;cases d
    |ok E x=>
     rw[f]at d;dsimp only at d;have C:=c9 _ _ _ f;obtain⟨v,z,t⟩:=w m x b c om (dJ y _ _ _ n f) (l _ _ _ k om) d;exact⟨v,om,t⟩
theorem uh{α:Type}{step:α->Nat->PR α}{d:Rd}(m:d.Wf){h:List UInt8}{lo:Nat}{I:α->Nat->Prop}(e:∀c p a,I c p->p<=a->I c a)(l:∀c p b a,lo<=p->p<d.ts.length->I c p->step c p=.ok b a->I b a/\p<a/\a<d.ts.length) 
  {c:α} {p:Nat} {b:α} {a:Nat} (k:lo<=p) (g:p<d.ts.length) (f:I c p) (i:dK step d h c p=.ok b a):I b a/\p<a/\a<d.ts.length:=by
 rw[dK]at i;split at i
 ·rename_i j;cases i;exact⟨e _ _ _ f (Nat.le_succ _),om,m.step g j⟩
 ·exact M5 m e l _ c p b a k g f i
theorem j9{b:Rd}(h:b.Wf){s:List UInt8}{p c:Nat}{g:Unit}(e:p<b.ts.length)(a:cv b [s] p=.ok g c):c=p+1/\c<b.ts.length/\cD (b.tok p) s=true:=by
 have d:=dJ h _ _ _ e a;rw[cv]at a;split at a
 ·rename_i f;cases a;exact⟨rfl,d,f⟩
 ·cases a
theorem mb{b:Rd}(n:b.Wf){c:Nat->PR Ex}{lo:Nat}(i:gi c b lo){s:List UInt8}{p d:Nat}{f:Ex}(l:lo<=p)(g:p<b.ts.length)(e:ep c b s p=.ok f d):fZ f/\dh f+p+1<=d/\p<d/\d<b.ts.length:=by
 rw[ep]at e;cases a:cv b [s] p with
 |bad o u=>rw[a]at e;cases e
 |ok r k=>
  rw[a]at e;obtain⟨rfl,h,_⟩:=j9 n g a;obtain⟨j,q,t,m⟩:=i _ f d om h e;exact⟨j,om,om,m⟩
theorem pf{b:Rd}(g:b.Wf)(f:b.Nm){p e:Nat}{s:List UInt8}(c:p<b.ts.length)(d:dy b p=.ok s e):dp s=true/\e=p+1/\e<b.ts.length:=by
 rw[dy]at d;split at d
 ·cases d
 ·rename_i a;have a:(b.tok p).kind=1:=by simpa using a
  cases d;exact⟨(f p c).1 a,Z,g.go p _ (b8 c) om⟩
theorem x9{d:Rd}(i:d.Wf)(g:d.Nm){a:List cV}{p f:Nat}{s:List UInt8}(e:p<d.ts.length)(c:dS d a p=.ok s f):dp s=true/\s ∉ a.map cV.n/\f=p+1/\f<d.ts.length:=by
 rw[dS]at c;split at c
 ·cases c
 ·rename_i b;have b:(d.tok p).kind=1:=by simpa using b
  split at c
  ·cases c
  ·rename_i h;cases c;exact⟨(g p e).1 b,h,Z,i.go p _ (b8 e) om⟩
def PI(b a:Nat)(l:List cV)(p:Nat):Prop:=rU b l/\nz b l+a<=p
theorem PI.mono{e a:Nat}(f:List cV)(p c:Nat)(d:PI e a f p)(b:p<=c):PI e a f c:=⟨d.1,Nat.le_trans d.2 b⟩
theorem J2{a:Rd}(u:a.Wf)(q:a.Nm){e:Nat->PR Ex}{lo j i:Nat}(b:j≠8)(f:j≠13)(r:gi e a lo)(m:List cV)(p:Nat)(g:List cV)(k:Nat)(w:lo<=p)(l:p<a.ts.length)(h:PI j i m p)(d:fW e a m p=.ok g k):PI j i g k/\p<k/\k<a.ts.length:=by
 rw[fW]at d;cases c:dS a m p with
 |bad z B=>rw[c]at d;cases d
 |ok s v=>
  rw[c]at d;dsimp only at d;obtain⟨f1,f2,rfl,f4⟩:=x9 u q l c;obtain⟨A,o,rfl⟩:=fj d;obtain⟨t,y,x,n⟩:=mb u r om f4 o;refine⟨⟨h.1.snoc f1 (by rw[if_neg f]) (by rw[if_neg b];exact⟨rfl,rfl⟩) (by simpa using t) (by simp[b]) f2,?_⟩,om,n⟩;have:=h.2;rw[xl,nz,nz,Uw,if_neg b,c8,c8];omega
theorem J3{b:Rd}(u:b.Wf)(h:b.Nm){e:Nat->PR Ex}{lo i:Nat}(q:gi e b lo)(l:List cV)(p:Nat)(f:List cV)(j:Nat)(x:lo<=p)(k:p<b.ts.length)(g:PI 13 i l p)(a:fD e b l p=.ok f j):PI 13 i f j/\p<j/\j<b.ts.length:=by
 rw[fD]at a;cases d:dS b l p with
 |bad v A=>rw[d]at a;cases a
 |ok s w=>
  rw[d]at a;dsimp only at a;obtain⟨f1,f2,rfl,f4⟩:=x9 u h k d;cases c:dy b (p+1)with
  |bad v A=>rw[c]at a;cases a
  |ok C B=>
   rw[c]at a;dsimp only at a;obtain⟨t,rfl,m⟩:=pf u h f4 c;obtain⟨D,o,rfl⟩:=fj a;obtain⟨r,z,y,n⟩:=mb u q om m o;refine⟨⟨g.1.snoc f1 (by rw[if_pos rfl];exact t) (by rw[if_neg dc];exact⟨rfl,rfl⟩) (by simpa using r) sm f2,?_⟩,om,n⟩;have:=g.2;rw[xl,nz,nz,Uw,if_neg dc,c8,c8];omega
theorem J4{b:Rd}(z:b.Wf)(v:b.Nm){e:Nat->PR Ty}{h:Nat->PR Ex}{lo k:Nat}(n:Good e b lo)(w:gi h b lo)(m:List cV)(p:Nat)(i:List cV)(j:Nat)(F:lo<=p)(l:p<b.ts.length)(d:PI 8 k m p)(a:ee e h b m p=.ok i j):PI 8 k i j/\p<j/\j<b.ts.length:=by
 rw[ee]at a;cases f:dS b m p with
 |bad A C=>rw[f]at a;cases a
 |ok s E=>
  rw[f]at a;dsimp only at a;obtain⟨f1,f2,rfl,f4⟩:=x9 z v l f;cases c:cv b [[58]] (p+1)with
  |bad A C=>rw[c]at a;cases a
  |ok J I=>
   rw[c]at a;dsimp only at a;obtain⟨rfl,o,_⟩:=j9 z f4 c;cases g:e (p+1+1)with
   |bad A C=>rw[g]at a;cases a
   |ok x r=>
    rw[g]at a;dsimp only at a;obtain⟨t1,t2,t3,t4⟩:=n _ x r om o g;have B:=d.2;split at a
    ·rename_i q;obtain⟨D,u,rfl⟩:=fj a;obtain⟨y,H,G,t⟩:=w _ D j om (z.step t4 q) u;refine⟨⟨d.1.snoc f1 (by rw[if_neg dc]) (by rw[if_pos rfl];exact t1) (by simpa using y) sm f2,?_⟩,om,t⟩;rw[xl,nz,nz,Uw,if_pos rfl,c8,c8];show _+(_+di x+_)+_<=_;omega
    ·cases a;refine⟨⟨d.1.snoc f1 (by rw[if_neg dc]) (by rw[if_pos rfl];exact t1) sm sm f2,?_⟩,om,t4⟩;rw[xl,nz,nz,Uw,if_pos rfl,c8];show _+(_+di x+_)+_<=_;omega
theorem yH{b:Rd}(w:b.Wf)(t:b.Nm){c:Nat->PR Ex}{lo k:Nat}(h:k≠8)(d:k≠13)(u:gi c b lo){e:List UInt8}{kids:List Ex}{p i:Nat}{g:Ex}(m:∀g∈kids,fZ g)(n:lo<=p)(l:p<b.ts.length) 
  (s:∀j,kM k j->∀f:List Ex,f.length=j.length->gh (.mk k [] [] [] 0 [] j (kids++f))) (v:hZ c b e k kids p=.ok g i):fZ g/\dh g+p<=1+c8 kids+i/\p<i/\i<b.ts.length:=by
 rw[hZ]at v;obtain⟨j,o,rfl⟩:=fj v;obtain⟨⟨a,x⟩,q,r⟩:=uh (I:=PI k p) w PI.mono (J2 w t h d u) n l ⟨rU.nil k,by rw[nz];omega⟩ o;refine⟨.mk ?_ (x7 a m),?_,q,r⟩
 ·exact s _ (x8 a) _ (by rw[Bj a,if_neg h])
 ·rw[vD,cL];omega
theorem fZ.kids{b:Ex}(a:fZ b):∀c∈b.kids,fZ c:=by cases a with|mk _ a=>exact a
theorem fZ.node{b:Ex}(a:fZ b):gh b:=by cases a with|mk a _=>exact a
def Bk(a:Nat)(b:Ex):Nat ⊕ Empty:=.inl (a+(1+cL (l4 b)))
theorem TP:∀(d:Nat) (b:Ex) (a:Nat),dh b<=d->ja Bk b a=.inl (a+dh b):=by
 intro d;induction d with
 |zero=>intro b a j;have:=ia b;omega
 |succ d g=>
  intro b a j;have f:=gx b;rw[nv];show fY Bk b.kids (a+(1+cL (l4 b)))=_;have:∀(c:List Ex) (a:Nat),c8 c<=d->fY Bk c a=.inl (a+c8 c):=by
   intro c;induction c with
   |nil=>intro a _;rfl
   |cons i c e=>
    intro a h;rw[c8]at h⊢;rw[fY,g i a om];show fY Bk c (a+dh i)=_;rw[e _ om,YL]
  rw[this _ _ om,f];congr 1;omega
def W6:Nat ⊕ Empty->Nat
 |.inl a=>a
 |.inr _=>0
theorem xm{k:Ex}{i:Nat}{j n g:List UInt8}{c:Int}{types:List Ty}{a:List iB}{b:List Ex}(o:fZ k)(h:k=.mk i j n g c types a b)(q:dh k<4294967296):types.length+a.length<4294967296:=by
 subst h;have f:=gx (.mk i j n g c types a b);have p:=j5 b;have d:=fu (l4 (.mk i j n g c types a b));rw[l4,Yw]at d;rw[l4]at f;rw[Ex.kids]at f;have l:=o.node;cases l
 case O3 _ e=>simp only[Yq];omega
 case func m e=>rw[if_pos rfl]at f d;rw[Yt]at d;simp only[Yq]at d⊢;omega
 case call _ e=>simp only[Yq];omega
 case Uu _ e=>simp only[Ym,Yq];omega
 all_goals simp only[Yq,Ym]at d⊢;omega
theorem Rt{c:Ex}{b:List D}(d:hY c b)(g:fZ c)(f:dh c<4294967296){σ:VS}{K:cZ->VS->Prop}(e:∀b,FG (l4 c) b->K (.ret (.d b)) σ):b3 C cn rp [.agg (b.map V.d)] σ K:=by
 have h:=gx c;exact Hs c b d (fun _ _ _ _ _ _ _ _ a=>by subst a;exact g.node.Vf) om (fun _ _ _ _ _ _ _ _ a=>xm g a f) e
theorem FG.inv{l:List Ty}{c:D}(b:FG l c):(l=[]/\c=.cC)∨∃d f e a,c=.ps d f 5 e a/\eX l a:=by
 cases b with
 |nil=>exact .inl ⟨rfl,rfl⟩
 |ps b=>exact .inr ⟨_,_,_,_,rfl,b⟩
def Lk(a:jT):jT:={a with state:=.busy}
def TQ(c:List V)(a:jT)(b:Nat ⊕ Empty):Ut:=⟨.box c,.box [b6 (W6 b)],.box c,a⟩
theorem Vq{b:Ut}{a:List V}{d:VS}(i:gC 0 a=true)(c:(gY 8 b.o0&&(gY 8 b.o1&&(gY 8 b.o2&&gY 8 (.loop b.L))))=true):mZ 8 (W3 b++.box a::d) 8=true:=by
 simp only[Yy]at c;obtain⟨g,f,e,h⟩:=c;simp only[W3,YB,YJ,mZ,g,f,e,h,YD,YH];rw[show gY 8 (.box a)=gC 8 a from rfl,hE 8 a i];rfl
theorem Vr{c:Ut}{b a:List V}{f:VS}(k:gC 0 b=true)(g:gC 0 a=true)(e:(gY 9 c.o0&&(gY 9 c.o1&&(gY 9 c.o2&&gY 9 (.loop c.L))))=true):mZ 9 (W3 c++.box b:: .box a::f) 9=true:=by
 simp only[Yy]at e;obtain⟨i,h,d,j⟩:=e;simp only[W3,YB,YJ,mZ,i,h,d,j,YD,YH];rw[show gY 9 (.box b)=gC 9 b from rfl,hE 9 b k,show gY 9 (.box a)=gC 9 a from rfl,hE 9 a g];rfl
theorem HE(s:Ex)(S:List D)(t:hY s S)(I:fZ s)(aw:dh s<4294967295):b3 C cn pP [.agg (S.map V.d)] [] fun af E=>E=[]/\af=.ret (b6 (dh s)):=by
 obtain⟨w,x,j,l,a,m,n,k,rfl⟩:=t.eight;refine cB ?_;refine cA ?_;refine cA ?_;refine(TB (step:=Bk) (B:=fun ad=>ad) (Good:=fZ) (S:=TQ (kt w x j l a m n k) ?M) (fun s K=>K.kids) ?_ ?_ ?_ ?_ _ s _ 0 (Yl _) t I om).mono (fun af E K=>?_)
 ·intro ak;exact rfl
 ·intro ak o v K;exact Vq K Z
 ·intro p s au K;cases K;exact Yl _
 ·intro p s S o ao t I T X u _;have W:=gx s;have X:p+dh s<4294967296:=X;obtain⟨r,q,d,f,b,h,g,c,rfl⟩:=t.eight;refine h7.intro ?_;refine Rt t I om (fun S U=>?_);have u:=u _ rfl;generalize l4 s=own at U W u;have P:∀(L:Int) (v:VS),L=Yn (p+(1+cL own))->ao (.ret (b0 true)) (W3 ⟨.box (kt w x j l a m n k),.box [.d (.int .i64 L)],.box (kt w x j l a m n k),?M⟩++.box o::v):=by
   rintro _ v rfl;exact u v
  have B:IntKind.i64.wrap (Yn p+1)=Yn (p+1):=cq om;rcases U.inv with⟨H,rfl⟩|⟨ae,ah,A,F,rfl,R⟩
  ·refine b5.loop ?_;have J:=P (IntKind.i64.wrap (Yn p+1)) [.box (kt r q d f b h g c)] (by rw[B,H,cL]);exact J
  ·have Q:=R.len;have ag:=fu own;have ab:Yn (p+1)=Yn (p+1+cL (own.take 0)):=by rw[List.take_zero,cL]
   refine cw (eh:=[(3,.bp 1 0),(13,.d (.ps ae ah 5 A F)),(14,b6 own.length),(15,b6 0)]) (fN:=W3 (TQ (kt w x j l a m n k) (Lk ?M) (.inl (p+1+cL (own.take 0))))++[.box o,.box (kt r q d f b h g c)]) (.same ⟨Z,Z,int_eq (by rw[Q]),rfl,tv⟩ (congrArg (fun L=>W3 ⟨.box (kt w x j l a m n k),.box [V.d (.int .i64 L)],.box (kt w x j l a m n k),Lk ?M⟩++[.box o,.box (kt r q d f b h g c)]) (B.trans ab))) ?_;refine b5.iter (fun i:Nat=>[(3,.bp 1 0),(13,.d (.ps ae ah 5 A F)),(14,b6 own.length),(15,b6 i)]) (fun i=>W3 (TQ (kt w x j l a m n k) (Lk ?M) (.inl (p+1+cL (own.take i))))++[.box o,.box (kt r q d f b h g c)]) (fun i=>own.length-i) (fun i=>i<=own.length) ?_ 0 (Ys _);have aa:gC 0 o=true:=T;intro i av;apply aZ<;>intro Y
   ·have e:i<own.length:=fq Y;obtain⟨S,y,G⟩:=R.get e;obtain⟨aq,ap,aj,ar,f3,rfl⟩:=G.eG;have z:=y;rw[<-cz]at z;have an:=gG (List.getElem_mem e);have N:=pZ e;have ai:=lW own (i+1);have ac:=eb (a:=p+1+cL (own.take i)) (b:=di own[i]) om;have O:Yn (p+1+cL (own.take i)+di own[i])=Yn (p+1+cL (own.take (i+1))):=by rw[N,<-YL]
    refine bZ Z ?_;refine b7 _ z ?_;repeat refine b1 ?_
    refine Dg own[i] _ G om ?_;repeat refine b1 ?_
    refine⟨i+1,e,by show own.length-(i+1)<own.length-i;omega,.drop 9 ⟨rfl,rfl,rfl,int_eq (cq om),tv⟩ rfl rfl ?_ rfl rfl rfl ?_,rfl,rfl⟩
    ·exact Vr aa Z Z
    ·exact congrArg (fun L=>W3 ⟨.box (kt w x j l a m n k),.box [V.d (.int .i64 L)],.box (kt w x j l a m n k),Lk ?M⟩++[.box o,.box (kt r q d f b h g c)]) (ac.trans O)
   ·have e:own.length<=i:=dM Y;rw[Yu e];have J:=P (Yn (p+1+cL own)) [.box (kt r q d f b h g c)] (by rw[YL]);exact J
 ·obtain⟨ak,y,rfl,rfl⟩:=K;rw[TP _ s 0 (Yl _)]at y;subst y;exact a6 0 ⟨Z,congrArg (fun ad=>cZ.ret (b6 ad)) (Nat.zero_add _)⟩
theorem J5(b:Ex)(f:List D)(a:hY b f)(d:fZ b)(e:dh b<4294967295){σ:VS}{K:cZ->VS->Prop}(c:K (.ret (b6 (dh b))) σ):b3 C cn pP [.agg (f.map V.d)] σ K:=by
 obtain⟨m,n,h,j,g,k,l,i,rfl⟩:=a.eight;exact cN (HE b _ a d e) Z Z c
def iU(_:Unit)(a:Ex):Unit ⊕ Nat:=if nT a=0 then .inl ()else .inr (nT a)
def SG:Unit ⊕ Nat->Nat
 |.inl _=>0
 |.inr a=>a
def rV(a:Ex):Nat:=if 4096<dh a∨32<l5 a then 7 else SG (ja iU a ())
def X5(a:jT):Unit ⊕ Nat->jT
 |.inl _=>a
 |.inr _=>Lb a
def W7(c:List V)(b:jT)(a:Unit ⊕ Nat):UZ:=⟨.box c,.box [b6 (SG a)],E6,.box [.map 2],.box c,X5 b a⟩
theorem TR{b:UZ}{a:List V}{d:VS}(k:gC 0 a=true)(c:(gY 10 b.o0&&(gY 10 b.o1&&(gY 10 b.o2&&(gY 10 b.o3&&(gY 10 b.o4&&gY 10 (.loop b.L))))))=true):mZ 10 (W5 b++.box a::d) 10=true:=by
 simp only[Yy]at c;obtain⟨h,g,e,i,f,j⟩:=c;simp only[W5,YB,YJ,mZ,h,g,e,i,f,j,YD,YH];rw[show gY 10 (.box a)=gC 10 a from rfl,hE 10 a k];rfl
theorem E9(d:Ex)(L:List D)(e:hY d L)(j:fZ d)(y:dh d<4294967295):b3 C cn oT [.agg (L.map V.d)] [] fun E o=>o=[]/\E=.ret (b6 (rV d)):=by
 obtain⟨X,aa,F,N,w,O,P,I,rfl⟩:=e.eight;refine cB ?_;refine J5 d _ e j y ?_;apply aZ<;>intro x
 ·repeat refine e4 ?_
  exact a6 0 ⟨Z,by rw[rV,if_pos (.inl (fq (a:=4096) x))];rfl⟩
 repeat refine e4 ?_
 refine Hr _ d _ y (Yl _) e ?_;repeat refine e4 ?_
 apply aZ<;>intro u
 ·repeat refine e4 ?_
  exact a6 0 ⟨Z,by rw[rV,if_pos (.inr (fq (a:=32) u))];rfl⟩
 repeat refine e4 ?_
 have z:rV d=SG (ja iU d ()):=by
  have:=dM (a:=4096) x;have:=dM (a:=32) u;rw[rV,if_neg om]
 rw[z];refine cA ?_;refine b7 none Z (b7 none Z (b7 none Z (b7 none Z (b7 none Z (b7 none Z (b7 none Z (b7 none Z ?_)))))));refine b7 none Z (b7 none Z (b7 none Z (b7 none Z (b7 none Z (b7 none Z (b7 none Z (b7 none Z (b7 none Z ?_))))))));refine cA ?_;refine cA ?_;refine(TC (step:=iU) (B:=fun _=>0) (Good:=fZ) (S:=W7 (kt X aa F N w O P I) ?ad) (fun d p=>p.kids) ?_ ?_ ?_ ?_ _ d _ () (Yl _) e j om).mono (fun E o p=>?_)
 ·intro v;cases v<;>exact rfl
 ·intro v K U p;exact TR p (by cases v<;>exact rfl)
 ·intro W d Y p;exact Ys _
 ·intro W d L K ac e j S A B R;refine h7.intro ?_;cases e with
  |mk H M J=>
   rename_i i f h g b types a c n l m;have T:=gx (.mk i f h g b types a c);have A:0+dh (.mk i f h g b types a c)<4294967296:=A;have t:=JR j.node H M J (xm j rfl om) om;refine JQ t 2 Z Z Z Z (fun E p=>?_);subst p;apply aZ<;>intro q
   ·have k:nT (.mk i f h g b types a c)≠0:=fun d=>by rw[d]at q;cases q
    have r:=R _ (by rw[iU,if_neg k]) [.box (kt i f h g b n l m)];exact r
   ·have k:nT (.mk i f h g b types a c)=0:=iZ q;have r:=B () (by rw[iU,if_pos k]) [.box (kt i f h g b n l m)];exact r
 ·obtain⟨v,Q,rfl,rfl⟩:=p;rw[Q];cases v with
  |inl af=>exact a6 0 ⟨rfl,rfl⟩
  |inr s=>exact a6 0 ⟨rfl,rfl⟩
theorem HF(b:Ex)(f:List D)(a:hY b f)(d:fZ b)(e:dh b<4294967295){σ:VS}{K:cZ->VS->Prop}(c:K (.ret (b6 (rV b))) σ):b3 C cn oT [.agg (f.map V.d)] σ K:=by
 obtain⟨m,n,h,j,g,k,l,i,rfl⟩:=a.eight;exact cN (E9 b _ a d e) Z Z c
structure RS where
 p:Nat
 off:Nat
 e:Nat
def RS.v(b:Rd)(a:RS):V:=.agg [.d (.ps b.b 0 3 b.cap (b.ts.map mK)),b6 a.p,b6 a.off,b6 a.e]
def RS.fail(b:RS)(a c:Nat):RS:=if b.e=0 then⟨b.p,a,c⟩else b
def RS.nU(b:Rd)(a:RS):RS:=a.fail (b.tok a.p).off 3
def RS.is(c:Rd)(a:RS)(b:List UInt8):Bool:=decide (a.e=0)&&cD (c.tok a.p) b
def RS.isKind(c:Rd)(a:RS)(b:Nat):Bool:=decide (a.e=0)&&decide ((c.tok a.p).kind=b)
def RS.next(a:RS):RS:=⟨a.p+1,a.off,a.e⟩
def RS.expect(b:Rd)(a:RS)(c:List UInt8):RS:=if a.is b c then a.next else a.nU b
theorem qV(a:Nat)(σ:VS):mZ a σ 0=true:=by rw[mZ]
theorem qW{d c:V}{σ:VS}(f:d=c)(b:bd 0 c=true):cR 0 (.ret d) σ fun e a=>a=[]/\e=.ret c:=by
 subst f;exact .drop 0 (YM (Ys _)) (qV 0 σ) b (.now Z ⟨Z,Z⟩)
theorem Wb{a:Nat}(b:decide (Yn a=0)=true):a=0:=BJ (b:=0) b
theorem W8{a:Nat}(b:decide (Yn a=0)=false):a≠0:=wA (b:=0) b
theorem jm(e:Rd)(c:RS)(a f:Nat){σ:VS}{K:cZ->VS->Prop}(b:K (.ret ((c.fail a f).v e)) σ):b3 C cn uy [c.v e,b6 a,b6 f] σ K:=by
 refine cN ?_ Z Z b;refine cB ?_;apply aZ<;>intro d
 ·refine qW ?_ Z;rw[RS.fail,if_pos (Wb d)];rfl
 ·refine qW ?_ Z;rw[RS.fail,if_neg (W8 d)];rfl
theorem nA(a:Rd)(b:RS)(c:b.p<a.ts.length){σ:VS}{K:cZ->VS->Prop}(d:K (.ret ((b.nU a).v a)) σ):b3 C cn sW [b.v a] σ K:=by
 have e:=rA (b8 c);refine cN ?_ Z Z d;refine cB ?_;refine bZ Z ?_;refine b7 _ e ?_;repeat refine b4 ?_
 refine jm a b _ 3 ?_;repeat refine b4 ?_
 refine qW ?_ ?_<;>exact Z
theorem cJ(h:Rd)(d:RS)(i:List UInt8)(c:d.p<h.ts.length){σ:VS}{K:cZ->VS->Prop}(e:K (.ret (b0 (d.is h i))) σ):b3 C cn wE [d.v h,cE i] σ K:=by
 have g:=rA (b8 c);refine cN ?_ Z Z e;unfold RS.is cD;refine cB ?_;refine bZ Z ?_;refine b7 _ g ?_;apply aZ<;>intro j
 ·repeat refine e4 ?_
  rw[decide_eq_true (Wb j),YD];apply aZ<;>intro b
  ·repeat refine e4 ?_
   refine qW ?_ Z;rw[decide_eq_true (BJ (b:=5) b)];show b0 _=b0 _;simp
  ·repeat refine e4 ?_
   apply aZ<;>intro a
   ·repeat refine e4 ?_
    refine qW ?_ Z;rw[decide_eq_true (BJ (b:=6) a)];show b0 _=b0 _;simp
   ·repeat refine e4 ?_
    refine qW ?_ Z;rw[decide_eq_false (wA (b:=5) b),decide_eq_false (wA (b:=6) a)];show b0 _=b0 _;simp
 ·repeat refine e4 ?_
  refine qW ?_ Z;rw[decide_eq_false (W8 j)];rfl
theorem gj(e:Rd)(b:RS)(g:Nat)(a:b.p<e.ts.length){σ:VS}{K:cZ->VS->Prop}(c:K (.ret (b0 (b.isKind e g))) σ):b3 C cn si [b.v e,b6 g] σ K:=by
 have d:=rA (b8 a);refine cN ?_ Z Z c;unfold RS.isKind;refine cB ?_;apply aZ<;>intro f
 ·repeat refine e4 ?_
  refine bZ Z ?_;refine b7 _ d ?_;repeat refine e4 ?_
  refine qW ?_ Z;rw[decide_eq_true (Wb f),YD];exact congrArg b0 (decide_eq_decide.2 (by simp only[Int.ofNat_eq_natCast];omega))
 ·repeat refine e4 ?_
  refine qW ?_ Z;rw[decide_eq_false (W8 f)];rfl
theorem cP(c:Rd)(a:RS)(d:a.p<4294967296){σ:VS}{K:cZ->VS->Prop}(b:K (.ret (a.next.v c)) σ):b3 C cn uA [a.v c] σ K:=by
 refine cN ?_ Z Z b;refine cB ?_;refine qW ?_ Z;show V.agg [_,V.d (.int .i64 (IntKind.i64.wrap (Yn a.p+1))),_,_]=_;rw[cq om];rfl
theorem cG(a:Rd)(f:a.Wf)(b:RS)(s:List UInt8)(c:b.p<a.ts.length){σ:VS}{K:cZ->VS->Prop}(d:K (.ret ((b.expect a s).v a)) σ):b3 C cn sh [b.v a,cE s] σ K:=by
 have e:=f.len;refine cN ?_ Z Z d;refine cB ?_;refine cJ a b s c ?_;unfold RS.expect;cases g:b.is a s with
 |true=>
  refine cP a b om ?_;refine qW ?_ ?_<;>exact Z
 |false=>
  refine nA a b c ?_;refine qW ?_ ?_<;>exact Z
def RS.dm(b:Rd)(a:RS)(c:Nat):List UInt8:=if a.isKind b c then(b.tok a.p).text else []
def RS.word(b:Rd)(a:RS)(c:Nat):RS:=if a.isKind b c then a.next else a.nU b
theorem dT(a:Rd)(h:a.Wf)(b:RS)(d:Nat)(c:b.p<a.ts.length){σ:VS}{K:cZ->VS->Prop}(e:K (.ret (.dN [cE (b.dm a d),b6 (a.tok b.p).off,(b.word a d).v a])) σ):b3 C cn uz [b.v a,b6 d] σ K:=by
 have g:=h.len;have f:=rA (b8 c);refine cN ?_ Z Z e;refine cB ?_;refine bZ Z ?_;refine b7 _ f ?_;refine gj a b d c ?_;unfold RS.word RS.dm;cases i:b.isKind a d with
 |true=>
  repeat refine b4 ?_
  refine cP a b om ?_;repeat refine b4 ?_
  refine qW ?_ ?_<;>exact Z
 |false=>
  repeat refine b4 ?_
  refine nA a b c ?_;repeat refine b4 ?_
  refine qW ?_ ?_<;>exact Z
theorem fv{b:Rd}(e:b.Wf){x:RS}{k:Nat}(c:k≠0)(a:x.p<b.ts.length):(x.word b k).p<b.ts.length:=by
 unfold RS.word;split
 ·rename_i d;simp only[RS.isKind,Yy,decide_eq_true_eq]at d;exact e.go x.p _ (b8 a) om
 ·unfold RS.nU RS.fail;split<;>exact a
theorem cY{b:Rd}(d:b.Wf){x:RS}{s:List UInt8}(a:x.p<b.ts.length):(x.expect b s).p<b.ts.length:=by
 unfold RS.expect;split
 ·rename_i c;simp only[RS.is,Yy]at c;exact d.step a c.2
 ·unfold RS.nU RS.fail;split<;>exact a
theorem p4{b:RS}(c:b.e≠0)(a d:Nat):b.fail a d=b:=by rw[RS.fail,if_neg c]
theorem od{c:Rd}{a:RS}(b:a.e≠0):a.nU c=a:=p4 b _ _
theorem dv{c:Rd}{a:RS}(d:a.e≠0)(b:List UInt8):a.is c b=false:=by rw[RS.is,decide_eq_false d];rfl
theorem hO{b:Rd}{a:RS}(c:a.e≠0)(d:Nat):a.isKind b d=false:=by rw[RS.isKind,decide_eq_false c];rfl
theorem eA{d:Rd}{a:RS}(b:a.e≠0)(c:List UInt8):a.expect d c=a:=by rw[RS.expect,dv b,if_neg dc,od b]
theorem lx{c:Rd}{a:RS}(b:a.e≠0)(d:Nat):a.word c d=a:=by rw[RS.word,hO b,if_neg dc,od b]
def cu(p:Nat):RS:=⟨p,0,0⟩
theorem eS(b:Rd)(p:Nat)(a:List UInt8):(cu p).is b a=cD (b.tok p) a:=rfl
theorem fk(b:Rd)(p a:Nat):(cu p).isKind b a=decide ((b.tok p).kind=a):=rfl
theorem dY{b:Rd}{p:Nat}{a:List UInt8}(c:cD (b.tok p) a=true):(cu p).expect b a=cu (p+1):=by rw[RS.expect,eS,c,if_pos rfl];rfl
theorem er{a:Rd}{p:Nat}{b:List UInt8}(c:cD (a.tok p) b=false):(cu p).expect a b=⟨p,(a.tok p).off,3⟩:=by rw[RS.expect,eS,c,if_neg dc];rfl
theorem ka{b:Rd}{p a:Nat}(c:(b.tok p).kind=a):(cu p).word b a=cu (p+1):=by rw[RS.word,fk,decide_eq_true c,if_pos rfl];rfl
theorem mS{a:Rd}{p b:Nat}(c:(a.tok p).kind≠b):(cu p).word a b=⟨p,(a.tok p).off,3⟩:=by rw[RS.word,fk,decide_eq_false c,if_neg dc];rfl
theorem xn{σ:VS}{i es n:Nat}{els:List (List D)}{d:Rd}{c:RS}(k:nth σ i=some (.row es (els.map fun o=>o.map V.d)))(f:n=els.length){m:cZ->Prop}(g:∀a,m (.ret (.dN [.d (.ps a 0 es n els),c.v d]))):
  cR 0 (.ret (.dN [.ms i es 0 n n,c.v d])) σ fun l e=>e=[]/\cX l=true/\m l:=by
 refine cR.freeze i (es:=es) (l:=els) k (ed els) (by simp[xS,pi,pN,RS.v,b6,f]) (fun a=>?_);have p:sU i a els (.ret (.dN [.ms i es 0 n n,c.v d]))=.ret (.dN [.d (.ps a 0 es n els),c.v d]):=by
  have j:iW i a els (.ms i es 0 n n)=.d (.ps a 0 es n els):=by
   rw[iW,gE];show V.d (.ps a (0*es) es n ((els.drop 0).take n))=_;rw[gD _ _ f,Nat.zero_mul]
  have h:iW i a els (c.v d)=c.v d:=by simp[RS.v,iW,wx,b6]
  simp only[sU,iW,wx];rw[h];have b:=j;rw[iW]at b;rw[b]
 rw[p];refine cR.drop 0 (YM (Ys _)) (qV 0 _) Z (cR.now Z ⟨Z,Z,g a⟩)
structure uJ (ty:Nat->PR Ty) (R:Rd) (lo:Nat):Prop where
 lt:∀p t q,lo<=p->p<R.ts.length->ty p=.ok t q->p<q/\q<R.ts.length
 call:∀p,lo<=p->p<R.ts.length->∀(σ:VS) (K:cZ->VS->Prop),(∀t d q,ty p=.ok t q->hU t d->K (.ret (.dN [.agg (d.map V.d),(cu q).v R])) σ)->
  (∀off e q k m n a f,ty p=.bad off e->e≠0->q<R.ts.length->K (.ret (.dN [.agg [.d k,.d m,.d n,.d a,.d f],(RS.mk q off e).v R])) σ)->b3 C cn du [(cu p).v R] σ K
 err:∀x:RS,x.e≠0->x.p<R.ts.length->∀(σ:VS) (K:cZ->VS->Prop),(∀k m n a f,K (.ret (.dN [.agg [.d k,.d m,.d n,.d a,.d f],x.v R])) σ)->b3 C cn du [x.v R] σ K
theorem uJ.up{b:Nat->PR Ty}{f:Rd}{lo a:Nat}(c:uJ b f lo)(h:lo<=a):uJ b f a:=
 ⟨fun e i g d=>c.lt e i g om,fun e d=>c.call e om,c.err⟩
theorem qX(b:Rd)(a:RS)(e:a.e≠0)(c:a.p<b.ts.length){σ:VS}{K:cZ->VS->Prop}(d:K (.ret (.dN [.d .cC,a.v b])) σ):b3 C cn gZ [a.v b] σ K:=by
 refine cN ?_ Z Z d;refine cB ?_;refine cJ b a [91] c ?_;rw[dv e];repeat refine b1 ?_
 refine qW ?_ ?_<;>exact Z
def SH(d:Rd)(h:PR (List Ty))(f:cZ):Prop:=match h with
 |.ok e c=>∃a,fK e a/\f=.ret (.dN [.d a,(cu c).v d])
 |.bad b g=>g≠0/\∃a c,(∃e,fK e a)/\c<d.ts.length/\f=.ret (.dN [.d a,(RS.mk c b g).v d])
def W9:Nat->Bool:=fun a=>YA a 24
def XA(e:Rd)(d:RS)(c:List V)(a:List (List D)):VS:=[.box (match d.v e with|.agg f=>f|_=>[]),.box c,.row 5 (a.map fun b=>b.map V.d)]
def XB(n:Nat):Tm:=[(1,.bp 0 0),(2,.d .cC),(3,.bp 1 0),(4,.ms 2 5 0 n n)]
def tx:List V:=[.d .cC,b6 0,b6 0,b6 0]
theorem TS{c n:Nat}(b:c<=4294967296)(a:n=1:=by rfl):(c+n)*88<=eE/\c+n<=eE:=by
 unfold eE;omega
theorem TT(c:Nat)(a:List (List D))(b:List D):some (V.ms c 5 0 (a.length+1) (a.length+1))=some (V.ms c 5 0 (a++[b]).length (a++[b]).length):=by simp
theorem Ru{c:Nat->Nat}(a:List (List D))(b:List D):some (cU.row 5 (List.take a.length (List.drop 0 (a.map fun b=>b.map V.d))++[b.map V.d]))=some (eC c (.row 5 ((a++[b]).map fun b=>b.map V.d))):=by
 rw[mM,YK,Yu sm,Yx];rfl
theorem HG(a:List (List D))(b:List D):some (cU.row 5 (List.take a.length (List.drop 0 (a.map fun b=>b.map V.d))++[b.map V.d]))=some (.row 5 ((a++[b]).map fun b=>b.map V.d)):=by
 rw[YK,Yu sm,Yx];rfl
theorem HH(c:Rd)(B:c.Wf)(f:Nat->PR Ty)(p:Nat)(x:p<c.ts.length)(v:uJ f c p):
  b3 C cn gZ [(cu p).v c] [] fun M z=>z=[]/\cX M=true/\SH c (fA f c p) M:=by
 have F:=B.len;refine cy W9 (fun _=>Z) ?_;refine cJ c (cu p) [91] x ?_;rw[eS];cases K:cD (c.tok p) [91]with
 |false=>
  repeat refine b1 ?_
  refine cR.drop 0 ?_ ?_ ?_ ?_
  ·exact Z
  ·exact Z
  ·exact Z
  refine cR.now Z ⟨Z,Z,?_⟩;rw[fA,K,if_neg dc];exact⟨_,.nil,Z⟩
 |true=>
  have G:=B.step x K;refine cw (eh:=XB 0) (fN:=XA c (cu p) tx []) (.same ⟨Z,Z,Z,Z,tv⟩ Z) ?_;refine b5.iter (fun e:Nat×List Ty×List (List D)=>XB e.2.2.length) (fun e=>XA c (cu e.1) tx e.2.2) (fun e=>c.ts.length-e.1)
   (fun e=>p<=e.1/\e.1+1<c.ts.length/\e.2.2.length<=e.1/\eX e.2.1 e.2.2/\∃h,c.ts.length-(e.1+1)<=h/\fA f c p=ec f c h e.2.1 (e.1+1)) ?_ (p,[],[]) ⟨Yl _,G,Ys _,.nil,c.ts.length,by show c.ts.length-(p+1)<=c.ts.length;omega,by rw[fA,K,if_pos rfl]⟩
  rintro⟨i,L,a⟩ ⟨q,l,r,g,h,y,b⟩;have q:p<=i:=q;have l:i+1<c.ts.length:=l;have r:a.length<=i:=r;have g:eX L a:=g;have y:c.ts.length-(i+1)<=h:=y;have b:fA f c p=ec f c h L (i+1):=b;obtain⟨h,rfl⟩:∃w,h=w+1:=⟨h-1,om⟩;rw[ec]at b;refine cP c (cu i) (by show i<4294967296;omega) ?_;refine v.call (i+1) om l _ _ (fun T V d n j=>?_) (fun O W d w J H E t n o u=>?_)
  ·obtain⟨w,J,H,E,t,rfl⟩:=j.eG;obtain⟨R,k⟩:=v.lt (i+1) _ _ om l n;rw[n]at b;dsimp only at b;intro Q;refine a7 Z (a7 ⟨Z,Z,by simp,Yl _,TS (show a.length<=4294967296 by omega)⟩ ?_);refine a1 Z (a1 (dZ a.length) ?_);refine cJ c (cu d) [44] k ?_;rw[eS];cases s:cD (c.tok d) [44]with
   |true=>
    rw[s,if_pos rfl]at b;refine⟨(d,L++[T],a++[_]),⟨by show p<=d;omega,B.step k s,by show(a++[_]).length<=d;simp;omega,g.snoc j,h,by show c.ts.length-(d+1)<=h;omega,b⟩,by show c.ts.length-d<c.ts.length-i;omega,?_,rfl,rfl⟩;exact .pick 2 [0,1,5] ⟨Z,Z,Z,TT 5 a _,tv⟩ Z Z Z Z Z dc ⟨Z,Z,Z,Z,Ru a _,fs _ _ _,tv⟩
   |false=>
    rw[s,if_neg dc]at b;refine cG c B (cu d) [93] k ?_;cases m:cD (c.tok d) [93]with
    |true=>
     rw[cv,m,if_pos rfl,cv]at b;rw[dY m];refine xn (i:=5) (es:=5) (els:=a++[[.int .i64 (Yn w),.str J,.str H,E,t]]) ?_ sm (fun S=>?_)
     ·exact HG a _
     rw[b];exact⟨_,.ps (g.snoc j) sm,Z⟩
    |false=>
     rw[cv,m,if_neg dc]at b;rw[er m];refine xn (i:=5) (es:=5) (els:=a++[[.int .i64 (Yn w),.str J,.str H,E,t]]) ?_ sm (fun S=>?_)
     ·exact HG a _
     rw[b];exact⟨dc,_,d,⟨_,.ps (g.snoc j) sm⟩,k,Z⟩
  ·rw[n]at b;dsimp only at b;refine aZ (fun A=>?_) (fun A=>absurd (iZ A) o);repeat refine b1 ?_
   refine cR.drop 0 ?_ ?_ ?_ ?_
   ·exact Z
   ·exact Z
   ·exact Z
   refine cR.now Z ⟨Z,Z,?_⟩;rw[b];exact⟨o,_,d,⟨_,.nil⟩,u,Z⟩
theorem yI(b:Rd)(r:b.Wf)(d:Nat->PR Ty)(p:Nat)(k:p<b.ts.length)(m:uJ d b p){σ:VS}{K:cZ->VS->Prop} 
  (o:∀h c e,fA d b p=.ok h e->fK h c->K (.ret (.dN [.d c,(cu e).v b])) σ) (l:∀a g e c,fA d b p=.bad a g->g≠0->(∃h,fK h c)->e<b.ts.length->K (.ret (.dN [.d c,(RS.mk e a g).v b])) σ):b3 C cn gZ [(cu p).v b] σ K:=by
 refine b3.closed (HH b r d p k m) Z (fun s j=>?_);unfold SH at j;split at j
 ·rename_i h e g;obtain⟨c,f,rfl⟩:=j;exact o h c e g f
 ·rename_i a q g;obtain⟨i,c,e,f,n,rfl⟩:=j;exact l a q e c g i f n
theorem Bl(b:Rd)(o:b.Wf)(c:Nat->PR Ty)(p:Nat)(g:p<b.ts.length)(j:uJ c b p){σ:VS}{K:cZ->VS->Prop} 
  (i:∀k e d,fA c b p=.ok k d->fK k e->K (.ret (.dN [.d e,(cu d).v b])) σ) (h:∀a f d e,fA c b p=.bad a f->f≠0->d<b.ts.length->K (.ret (.dN [.d e,(RS.mk d a f).v b])) σ):b3 C cn gZ [(cu p).v b] σ K:=
 yI b o c p g j i (fun a f d e n l _ m=>h a f d e n l m)
def Pz(c:Rd)(g:PR Ty)(e:cZ):Prop:=match g with
 |.ok j b=>∃d,hU j d/\e=.ret (.dN [.agg (d.map V.d),(cu b).v c])
 |.bad a f=>f≠0/\∃k l i m h b,b<c.ts.length/\e=.ret (.dN [.agg [.d k,.d l,.d i,.d m,.d h],(RS.mk b a f).v c])
theorem Bm(c:Rd)(l:c.Wf)(f:Nat->PR Ty)(p:Nat)(d:p<c.ts.length)(j:uJ f c p):
  b3 C cn iz [(cu p).v c] [] fun A s=>s=[]/\cX A=true/\Pz c (dl f c p) A:=by
 have y:=l.len;refine cB ?_;refine cG c l (cu p) [91] d ?_;have a:dl f c p=match cv c [[91]] p with
  |.bad n k=>.bad n k
  |.ok _ G=>match f G with
   |.bad n k=>.bad n k
   |.ok D b=>match cv c [[93]] b with
    |.bad n k=>.bad n k
    |.ok _ z=>.ok D z:=rfl
 cases t:cD (c.tok p) [91]with
 |false=>
  rw[cv,t,if_neg dc]at a;rw[er t];refine j.err _ (by show(3:Nat)≠0;decide) d _ _ (fun v x w u E=>?_);repeat refine b1 ?_
  refine cG c l _ [93] d ?_;rw[eA (by show(3:Nat)≠0;decide)];repeat refine b1 ?_
  refine cR.drop 0 ?_ ?_ ?_ ?_
  ·exact Z
  ·exact Z
  ·exact Z
  refine cR.now Z ⟨Z,Z,?_⟩;rw[a];exact⟨dc,v,x,w,u,E,p,d,Z⟩
 |true=>
  rw[cv,t,if_pos rfl,cv]at a;rw[dY t];dsimp only at a;have q:=l.step d t;refine j.call (p+1) om q _ _ (fun D H b g m=>?_) (fun B k b v x w u r g i h=>?_)
  ·obtain⟨v,x,w,u,r,rfl⟩:=m.eG;obtain⟨F,o⟩:=j.lt (p+1) _ _ om q g;rw[g]at a;dsimp only at a;repeat refine b1 ?_
   refine cG c l (cu b) [93] o ?_;cases e:cD (c.tok b) [93]with
   |true=>
    rw[cv,e,if_pos rfl,cv]at a;rw[dY e];repeat refine b1 ?_
    refine cR.drop 0 ?_ ?_ ?_ ?_
    ·exact Z
    ·exact Z
    ·exact Z
    refine cR.now Z ⟨Z,Z,?_⟩;rw[a];exact⟨_,m,Z⟩
   |false=>
    rw[cv,e,if_neg dc]at a;rw[er e];repeat refine b1 ?_
    refine cR.drop 0 ?_ ?_ ?_ ?_
    ·exact Z
    ·exact Z
    ·exact Z
    refine cR.now Z ⟨Z,Z,?_⟩;rw[a];exact⟨dc,_,_,_,_,_,b,o,Z⟩
  ·rw[g]at a;dsimp only at a;repeat refine b1 ?_
   refine cG c l _ [93] h ?_;rw[eA i];repeat refine b1 ?_
   refine cR.drop 0 ?_ ?_ ?_ ?_
   ·exact Z
   ·exact Z
   ·exact Z
   refine cR.now Z ⟨Z,Z,?_⟩;rw[a];exact⟨i,v,x,w,u,r,b,h,Z⟩
theorem Cz(b:Rd)(w:b.Wf)(c:Nat->PR Ty)(p:Nat)(t:p<b.ts.length)(m:uJ c b p){σ:VS}{K:cZ->VS->Prop} 
  (r:∀i g d,dl c b p=.ok i d->hU i g->K (.ret (.dN [.agg (g.map V.d),(cu d).v b])) σ) (k:∀a e d q v u l n,dl c b p=.bad a e->e≠0->d<b.ts.length->K (.ret (.dN [.agg [.d q,.d v,.d u,.d l,.d n],(RS.mk d a e).v b])) σ):b3 C cn iz [(cu p).v b] σ K:=by
 refine b3.closed (Bm b w c p t m) Z (fun x h=>?_);unfold Pz at h;split at h
 ·rename_i i d e;obtain⟨g,j,rfl⟩:=h;exact r i g d e j
 ·rename_i a s e;obtain⟨f,q,v,u,l,n,d,o,rfl⟩:=h;exact k a s d q v u l n e f o
end Go.Proofs.YthlkhjchcjflkaaGreatDoor
namespace Go.VM
open Go.AM
def nb(l:List (List UInt8))(n:List UInt8):Nat:=(l.takeWhile fun a=>cK a n).length
theorem HI{l:List (List UInt8)}{n:List UInt8}{b:Nat}(f:b<=l.length)(d:∀a∈l.take b,cK a n=true)(c:∀a,l[b]?=some a->cK a n=false):nb l n=b:=by
 have e:l.takeWhile (fun a=>cK a n)=l.take b:=by
  conv=>lhs;rw[<-List.take_append_drop b l]
  rw[List.takeWhile_append_of_pos d];have:(l.drop b).takeWhile (fun a=>cK a n)=[]:=by
   rcases Nat.lt_or_ge b l.length with h|h
   ·rw[List.drop_eq_getElem_cons h,YG,c _ (YC h)];rfl
   ·rw[List.drop_of_length_le h];rfl
  rw[this,List.append_nil]
 rw[nb,e,List.length_take];omega
theorem Fa(l:List (List UInt8))(n:List UInt8):nb l n<=l.length:=by
 unfold nb;have b:l=l.takeWhile (fun a=>cK a n)++l.dropWhile (fun a=>cK a n):=List.takeWhile_append_dropWhile.symm;conv=>rhs;rw[b,Yw]
 omega
section
variable{α:Type} {key:α->List UInt8}
theorem Fb(b:α):∀a:List α,jk key b a=a.take (nb (a.map key) (key b))++b::a.drop (nb (a.map key) (key b)):=by
 intro a;induction a with
 |nil=>rfl
 |cons d a c=>
  simp only[jk,nb,Yz,YG];split
  ·rw[c];simp only[nb,Ym,List.take_succ_cons,List.drop_succ_cons,YB]
  ·rfl
theorem Fc{l:List α}(i:lA key l)(n:List UInt8):decide ((l.map key)[nb (l.map key) n]?=some n)=decide (n∈l.map key):=by
 induction l with
 |nil=>simp[nb]
 |cons g l e=>
  have b:=List.pairwise_cons.1 i;simp only[nb,Yz,YG];cases a:cK (key g) n with
  |true=>
   simp only[if_true,Ym,List.getElem?_cons_succ,List.mem_cons];have:=e b.2;unfold nb at this;rw[this];have c:n≠key g:=fun d=>by rw[d,EJ]at a;cases a
   simp[c]
  |false=>
   simp only[Yr,if_false,Yq,List.getElem?_cons_zero,Option.some.injEq,List.mem_cons];rw[decide_eq_decide];constructor
   ·intro d;exact .inl d.symm
   ·rintro(d|hm)
    ·exact d.symm
    ·exfalso;obtain⟨h,f,rfl⟩:=YE.1 hm;rw[b.1 h f]at a;cases a
end
end Go.VM
namespace Go.Proofs.YthlkhjchcjflkaaGreatDoor
open Go.AM Go.VM
def mT(l:List (List UInt8)):List (List V):=(et l).map fun a=>a.map V.d
theorem PA{c a n:Nat}(e:c<=a)(b:a<4294967296)(d:n=1:=by rfl):(c+n)*16<=eE/\c+n<=eE:=by
 unfold eE;omega
theorem Ll{b:Nat->Nat}(l:List (List UInt8))(c:List UInt8)(n:Nat)(a:n=l.length):some (cU.row 1 (List.take n (List.drop 0 (mT l))++[[V.d (.str c)]]))=some (eC b (.row 1 (mT (l++[c])))):=by
 rw[mT,mT,mM,YK,Yu (by simp[et,a])];simp[et]
theorem SI(a:Nat)(l:List (List UInt8)):gY a (.row 1 (mT l))=true:=fs a 1 (et l)
theorem TU{xs:List FE}{n:Nat}(c:n=xs.length):cR 1 (.ret (.ms 1 1 0 n n)) [.row 7 (rows xs),.row 1 (mT (xs.map FE.n))] fun e b=>b=[.row 7 (rows xs)]/\∃a,e=.ret (.d (.ps a 0 1 n (et (xs.map FE.n)))):=by
 refine cR.freeze 1 (es:=1) (l:=et (xs.map FE.n)) Z (ed _) (fun _=>⟨Z,by simp[et,c]⟩) (fun a=>?_);have d:sU 1 a (et (xs.map FE.n)) (.ret (.ms 1 1 0 n n))=.ret (.d (.ps a (0*1) 1 n (et (xs.map FE.n)))):=by
  show cZ.ret (iW 1 a _ (.ms 1 1 0 n n))=_;rw[iW,gE];show cZ.ret (.d (.ps a (0*1) 1 n (((et (xs.map FE.n)).drop 0).take n)))=_;rw[gD _ _ (by simp[et,c])]
 rw[d];refine cR.drop 1 Z ?_ Z (cR.now Z ⟨Z,a,Z⟩);show(gY 1 (.row 7 (rows xs))&&mZ 1 _ 0)=true;rw[qV,YH];exact fs _ 7 (xs.map fe)
def PB:Nat->Bool:=fun a=>YA a 18
theorem HJ(xs:List FE)(n:Nat)(i:n=xs.length)(o:n<4294967296):
  b3 C cn kv [.ms 0 7 0 n n] [.row 7 (rows xs)] fun m f=>f=[.row 7 (rows xs)]/\∃l,m=.ret (.d (.ps l 0 1 n (et (xs.map FE.n)))):=by
 refine cy PB (fun _=>Z) ?_;refine cw (eh:=[(0,.ms 0 7 0 n n),(3,.ms 1 1 0 0 0),(4,b6 0)]) (fN:=[.row 7 (rows xs),.row 1 (mT ((xs.take 0).map FE.n))]) (.same ⟨Z,Z,Z,tv⟩ Z) ?_;refine b5.iter (fun a:Nat=>[(0,.ms 0 7 0 n n),(3,.ms 1 1 0 a a),(4,b6 a)]) (fun a=>[.row 7 (rows xs),.row 1 (mT ((xs.take a).map FE.n))]) (fun a=>n-a) (fun a=>a<=n) ?_ 0 (Ys _);intro a p;apply aZ<;>intro g
 ·have b:a<n:=fq g;have h:xs[a]?=some xs[a]:=YC om;have c:nth (rows xs) (0+a)=some ((fe xs[a]).map V.d):=by rw[Nat.zero_add,cz,rows,YI,YI,h];rfl
  have d:(xs.take (a+1)).map FE.n=(xs.take a).map FE.n++[xs[a].n]:=by rw[List.take_add_one,h,Yx];rfl
  have e:a=((xs.take a).map FE.n).length:=by simp;omega
  generalize xs[a]=q at c d;refine bZ Z ?_;refine a7 b ?_;refine b7 _ c ?_;intro l;refine a7 Z (a7 ⟨Z,Z,by simp[mT,et];omega,Yl _,PA (Yl a) om⟩ ?_);refine a1 Z (a1 (dZ a) ?_);refine⟨a+1,b,by show n-(a+1)<n-a;omega,?_,rfl,rfl⟩;refine .pick 1 [0,2] ⟨Z,Z,int_eq (cq om),tv⟩ Z Z Z Z Z dc ⟨?_,?_,?_,SI _ _,tv⟩
  ·exact congrArg some (mM _ 7 (xs.map fe)).symm
  ·exact fs _ 7 (xs.map fe)
  ·rw[d];exact Ll _ _ _ e
 ·have b:n<=a:=dM g;obtain rfl:a=n:=om;rw[Yu om];exact TU i
theorem hP(l:List (List UInt8))(s:List UInt8)(b e:Nat)(p:l.length<4294967296){σ:VS}{K:cZ->VS->Prop}(d:K (.ret (.dN [b6 (nb l s),b0 (decide (l[nb l s]?=some s))])) σ):
  b3 C cn sX [.d (.ps b 0 1 e (et l)),cE s] σ K:=by
 have h:(et l).length=l.length:=by simp[et]
 refine cA ?_;refine b5.less (eh:=[(0,.d (.ps b 0 1 e (et l))),(1,cE s),(6,b6 0)]) ⟨Z,Z,Z,tv⟩ ?_;refine b5.iter (fun a:Nat=>[(0,.d (.ps b 0 1 e (et l))),(1,cE s),(6,b6 a)]) (fun _=>σ) (fun a=>l.length-a) (fun a=>a<=l.length/\∀j∈l.take a,cK j s=true) ?_ 0 ⟨Ys _,by simp⟩;rintro a ⟨o,i⟩;apply aZ<;>intro g
 ·have k:a<l.length:=h▸fq g;have c:l[a]?=some l[a]:=YC k;have hx:nth (et l) a=some [.str l[a]]:=by rw[cz,et,YI,c];rfl
  repeat refine e4 ?_
  refine bZ Z (b7 _ hx ?_);repeat refine e4 ?_
  apply aZ<;>intro m
  ·repeat refine e4 ?_
   refine⟨a+1,⟨k,?_⟩,by show l.length-(a+1)<l.length-a;omega,.same ⟨rfl,rfl,int_eq (cq om),tv⟩ rfl,rfl,rfl⟩;rw[List.take_add_one,c];intro j hx;rcases Yp.1 hx with hx|hx
   ·exact i j hx
   ·simp at hx;subst hx;exact m
  ·repeat refine e4 ?_
   have f:nb l s=a:=HI o i (fun j hx=>by rw[c]at hx;cases hx;exact m);rw[f,c]at d;have n:decide (some l[a]=some s)=decide (l[a]=s):=decide_eq_decide.2 sm;rw[n]at d;repeat first|refine a8 g ?_|refine bZ rfl (b7 _ hx ?_)|refine b4 ?_
   exact d
 ·have k:l.length<=a:=h▸dM g;repeat refine e4 ?_
  have f:nb l s=a:=HI o i (fun j hx=>by rw[YN k]at hx;cases hx);rw[f,YN k]at d;repeat first|refine a1 g ?_|refine b4 ?_
  exact d
end Go.Proofs.YthlkhjchcjflkaaGreatDoor
