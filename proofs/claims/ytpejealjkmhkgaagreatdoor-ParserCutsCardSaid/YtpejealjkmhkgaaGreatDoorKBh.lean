/- Part of the proof. -/
import Derived.Test.YtpejealjkmhkgaaGreatDoorKBg
set_option linter.all false
set_option maxHeartbeats 16000000
set_option maxRecDepth 100000
open Nat renaming le_refl->YL,le_of_ble_eq_true->YN,beq->YS,zero_le->YT,zero_add->YX
open Int renaming ofNat->YM,ofNat_eq_natCast->YY
open List renaming length_cons->YO,length_map->YQ,length_append->YR,length_nil->YU,mem_singleton->YV,mem_append->YW,length_pos_iff->YZ
open Bool renaming false_eq_true->YP
namespace Go.Proofs.YtpejealjkmhkgaaGreatDoor
open Go.AM Go.VM
abbrev K4(c:List UInt8)(l:Nat)(n b:List UInt8)(m f:D)(o:Bool)(p:D):FE:=⟨c,l,n,b,m,f,o,[],p⟩
def Xu:Nat->Bool:=fun b=>YS b 8||YS b 14||YS b 23
def Xv:Nat->Bool:=fun b=>YS b 10||YS b 24||YS b 25||YS b 29
variable{g:dC->VS->Prop} {j:VS}
theorem Jt(r:Nat)(n:List UInt8)(m:D){l:List et}{xs:List FE}(z:jS l xs)(v:(xs.map FE.n).Nodup)(J:∀s∈l,s.val.length<=1)(f:Nat)(I:f=xs.length)(G:f<4294967295)(p q:Nat)(t:p≠q)(w:nth j p=some (.row 9 (dd true xs)))(A:nth j q=some .gone) 
  (B:∀s c b,fG 0 s=true->fK ((cE et.n l).map et.CV) c->iL ((cE et.n l).flatMap et.val) b->b.length<=f+1->g (.ret (.agg (jx r n m (.d c) (kV j.length 8 b)))) (((j.set p s).set q .gone)++[kO 8 b])):
  b1 C b7 iR [.agg (jx r n m (.d .cn) (.d .cn)),.d .cn,.ms p 9 0 f f] j g:=by
 refine(Jm r n m z v J f I G).frame [p,q] Z (by simp[t]) (fun K x o=>?_) rfl rfl (fun L E o _=>?_)
 ·match K,o with
  |0,o=>
   obtain rfl:p=x:=by simpa using o
   exact⟨_,Z,by rw[<-cv,w];exact p8 _ _,ju _ _ _⟩
  |1,o=>
   obtain rfl:q=x:=by simpa using o
   exact⟨_,Z,by rw[<-cv,A];rfl,rfl⟩
  |K+2,o=>simp at o
 ·obtain⟨s,c,b,rfl,u,y,H,F,rfl⟩:=o;have M:mf (jg [p,q] j.length) (.ret (.agg (jx r n m (.d c) (kV 2 8 b))))=.ret (.agg (jx r n m (.d c) (kV j.length 8 b))):=by
   show dC.ret (.agg (jx r n m (.d c) (gJ _ (kV 2 8 b))))=_;rw[lW];rfl
  rw[M];simp only[List.map_cons,List.map_nil,en _ _ u,AQ,merge];exact B s c b u y H F
def Xw(l:List et)(xs:List FE)(c:Nat):Prop:=jS l xs/\(xs.map FE.n).Nodup/\(∀b∈l,b.val.length<=1)/\xs.length<=c
def Xx(xs:List FE):VS:=[.box [.bp 0 0],.box jz,.box [kV 6 9 (GU xs)],nj (xs.map FE.n),.box [.map 4],kO 9 (GU xs)]
theorem VX{b:Nat->Nat}(xs:List FE)(c:FE):some (nj (xs.map FE.n++[c.n]))=some (dH b (nj ((xs++[c]).map FE.n))):=by
 rw[en b _ (fQ _),List.map_append];rfl
variable{a:Nat->PR Ex} {d:Nat->PR Ty} {e:Rd}
theorem Sj(aj:e.Wf){lo:Nat}(ac:eo d e lo)(T:ld cR a e lo)(l:List et)(xs:List FE)(c:Nat)(ao:Xw l xs c)(ar:lo<=c)(ae:c<e.ts.length)(i:dC->VS->Prop) 
  (k:∀ah af s G,hR d a e l c=.ok ah s->Xw ah af s->c<s->s<e.ts.length->pz 6 (dq e s::G) (dq e s::Xx af)->i (.ret (.dV [])) (dq e s::G))
  (O:∀D au s G,hR d a e l c=.bad D au->6<=G.length+1->i (.eE (dt D au)) (dq e s::G)):b1 C b7 mP (lX [1,5,3]) (dq e c::Xx xs) i:=by
 have an:=aj.len;obtain⟨W,S,ai,B⟩:=ao;have Q:=W.names;refine b1.body Xv (fun _=>Z) ?_;refine n9 e aj c ae (xs.map FE.n) 0 4 dc Z Z (fun t b=>?_) (fun t b=>?_) (fun t=>?_)
 ·have b:(e.tok c).text ∉ l.map et.n:=Q▸b;have ab:c+1<e.ts.length:=aj.go c _ (bZ ae) om;intro ak;refine gM aj [58] ab ak _ 0 ?_ (fun E U=>?_) (fun E s=>?_)
  ·exact Z
  ·refine ac.call (c+1+1) om U 0 _ _ ?_ (fun j av P F H=>?_) (fun D al P F=>?_)
   ·exact Z
   ·obtain⟨am,A⟩:=ac.lt _ _ _ om U F;obtain⟨f,o,tn,m,n,rfl⟩:=H.di;refine cG e P (e.tok P) [61] (bZ A) om 0 ?_ (fun J=>?_) (fun J=>?_)
    ·exact Z
    ·have V:=aj.step A J;repeat refine b6 ?_
     refine T.call (P+1) om V 0 _ _ ?_ (fun ad ax ag R aa=>?_) (fun D al ag R=>?_)
     ·exact Z
     ·obtain⟨aq,h⟩:=T.lt _ _ _ om V R;obtain⟨x,g,Y,y,r,q,z,v,rfl⟩:=aa.eight;intro aw;repeat refine b8 ?_
      intro w;repeat refine b8 ?_
      intro ap;have K:hR d a e l c=.ok (l++[⟨(e.tok c).text,[],j,true,[ad]⟩]) ag:=by simp only[hR,ef,t,ne_eq,not_true,if_false,b,cu,E,if_true,F,J,R,PR.map]
      have M:jS (l++[⟨(e.tok c).text,[],j,true,[ad]⟩]) (xs++[K4 (e.tok c).text f o tn m n true (.ps w 0 8 1 [[.int .i64 (YM x),.str g,.str Y,.str y,.int .i64 r,q,z,v]])]):=W.snoc rfl rfl rfl H (.ps (.cons aa .nil));have u:=tx (x:=(K4 (e.tok c).text f o tn m n true (.ps w 0 8 1 [[.int .i64 (YM x),.str g,.str Y,.str y,.int .i64 r,q,z,v]]))) S Q b;have L:∀X∈l++[(⟨(e.tok c).text,[],j,true,[ad]⟩:et)],X.val.length<=1:=by
       intro X p;rcases YW.1 p with p|p
       ·exact ai X p
       ·simp only[YV]at p;subst p;first|exact YL _|exact YT _
      rcases xs with _|⟨I,N⟩;all_goals
       first
        |refine a1 rfl (a1 ⟨YN rfl,YN rfl⟩ (a6 rfl ?_))
        |refine a1 rfl (a1 ⟨rfl,rfl,by simp,YL _,qS (by simp only[YO,YQ]at B⊢;omega) (YL _) (YN rfl)⟩ (a6 rfl (a6 (jw _) ?_)))
       refine k _ _ _ _ K ⟨M,u,L,by simp only[YR,YO,YU]at B⊢;omega⟩ om h ⟨[0,1,2,3,4,5,8],rfl,dc,by show 6<=7;omega,rfl,rfl,rfl,rfl,rfl,rfl,by first|exact wN (K4 (e.tok c).text f o tn m n true (.ps w 0 8 1 [[.int .i64 (YM x),.str g,.str Y,.str y,.int .i64 r,q,z,v]])) rfl|exact tz I N (K4 (e.tok c).text f o tn m n true (.ps w 0 8 1 [[.int .i64 (YM x),.str g,.str Y,.str y,.int .i64 r,q,z,v]])) rfl,zx _ rfl,VX _ (K4 (e.tok c).text f o tn m n true (.ps w 0 8 1 [[.int .i64 (YM x),.str g,.str Y,.str y,.int .i64 r,q,z,v]])),iA _ _ (fQ _),rfl,rfl,by first|exact wO (K4 (e.tok c).text f o tn m n true (.ps w 0 8 1 [[.int .i64 (YM x),.str g,.str Y,.str y,.int .i64 r,q,z,v]]))|exact tA I N (K4 (e.tok c).text f o tn m n true (.ps w 0 8 1 [[.int .i64 (YM x),.str g,.str Y,.str y,.int .i64 r,q,z,v]])),fO _ _ _,tv⟩
     ·exact O _ _ _ _ (by simp only[hR,ef,t,ne_eq,not_true,if_false,b,cu,E,if_true,F,J,R,PR.map]) (by show 6<=8;omega)
    ·intro ap;have K:hR d a e l c=.ok (l++[⟨(e.tok c).text,[],j,false,[]⟩]) P:=by simp only[hR,ef,t,ne_eq,not_true,if_false,b,cu,E,if_true,F,J,YP]
     have M:jS (l++[⟨(e.tok c).text,[],j,false,[]⟩]) (xs++[K4 (e.tok c).text f o tn m n false .cn]):=W.snoc rfl rfl rfl H .nil;have u:=tx (x:=(K4 (e.tok c).text f o tn m n false .cn)) S Q b;have L:∀X∈l++[(⟨(e.tok c).text,[],j,false,[]⟩:et)],X.val.length<=1:=by
      intro X p;rcases YW.1 p with p|p
      ·exact ai X p
      ·simp only[YV]at p;subst p;first|exact YL _|exact YT _
     rcases xs with _|⟨I,N⟩;all_goals
      first
       |refine a1 rfl (a1 ⟨YN rfl,YN rfl⟩ (a6 rfl ?_))
       |refine a1 rfl (a1 ⟨rfl,rfl,by simp,YL _,qS (by simp only[YO,YQ]at B⊢;omega) (YL _) (YN rfl)⟩ (a6 rfl (a6 (jw _) ?_)))
      refine k _ _ _ _ K ⟨M,u,L,by simp only[YR,YO,YU]at B⊢;omega⟩ om A ⟨[0,1,2,3,4,5,8],rfl,dc,by show 6<=7;omega,rfl,rfl,rfl,rfl,rfl,rfl,by first|exact wN (K4 (e.tok c).text f o tn m n false .cn) rfl|exact tz I N (K4 (e.tok c).text f o tn m n false .cn) rfl,zx _ rfl,VX _ (K4 (e.tok c).text f o tn m n false .cn),iA _ _ (fQ _),rfl,rfl,by first|exact wO (K4 (e.tok c).text f o tn m n false .cn)|exact tA I N (K4 (e.tok c).text f o tn m n false .cn),fO _ _ _,tv⟩
   ·exact O _ _ _ _ (by simp only[hR,ef,t,ne_eq,not_true,if_false,b,cu,E,if_true,F]) (by show 6<=8;omega)
  ·exact O _ _ _ _ (by simp only[hR,ef,t,ne_eq,not_true,if_false,b,cu,E,YP]) (by show 6<=8;omega)
 ·have b:(e.tok c).text∈l.map et.n:=Q▸b;exact O _ _ _ _ (by simp only[hR,ef,t,ne_eq,not_true,if_false,b,if_true]) (by show 6<=7;omega)
 ·exact O _ _ _ _ (by simp only[hR,ef,t,ne_eq,not_false_eq_true,if_true]) (by show 6<=7;omega)
def yz(b:Nat->PR Ex)(f:Rd):PR (List et)->PR Ex
 |.bad l m=>.bad l m
 |.ok n c=>(eJ b f [61,62] c).map (Ps (jv 8 [] [] [] n))
variable{i:Nat}
theorem Ju(T:e.Wf)(y:eo d e i)(l:ld cR a e i)(P:i<e.ts.length):
  b1 C b7 k3 [.bp 0 0] [dq e i] (H2 e (funcF d a e i)):=by
 have aa:=T.len;refine cA Xu (fun _=>Z) ?_;intro h;refine gM T [40] P h _ 0 Z (fun F ab=>?_) (fun F x=>?_)
 ·have X:funcF d a e i=yz a e (fA (hR d a e) e [41] [] (i+1)):=by
   simp only[funcF,cu,F,if_true];cases fA (hR d a e) e [41] [] (i+1)<;>rfl
  rw[X];have l:ld cR a e (i+1):=l.up om;have y:eo d e (i+1):=⟨fun z ar x K=>y.lt z ar x om,fun z K=>y.call z om⟩;refine C0 T [41] (hR d a e) Xw Xx (g0:=[]) (a0:=[]) [.box [.bp 0 0],.box jz,.box [.d .cn],nj [],.box [.map 4]] 6 mP Z [1,5,3] ab ⟨.nil,List.nodup_nil,by simp,YT _⟩ (fun al Y x K=>⟨K.1,K.2.1,K.2.2.1,Nat.le_succ_of_le K.2.2.2⟩) rfl rfl (fun Y=>by show 6<=7;omega) dc (fun al Y x k W ae ai U af=>Sj T y l al Y x k W ae ai U af) (fun av ad x I ac aj j=>?_) (fun t E x ao I=>?_)
  ·obtain⟨M,Q,ag,A⟩:=ac;rw[I];intro g;refine gM T [61,62] j g _ 0 Z (fun o v=>?_) (fun o au=>?_)
   ·rcases ad with _|⟨V,S⟩
    ·cases M;refine cQ (MA 8 [] .cn) Z Z ?_;repeat refine b6 ?_
     refine l.call (x+1) om v 0 _ _ Z (fun ak N s c b=>?_) (fun t E s c=>?_)
     ·obtain⟨q,r,u,w,f,p,n,m,rfl⟩:=b.eight;intro O;repeat refine b8 ?_
      exact zy 7 1 (els:=[[.int .i64 (YM q),.str r,.str u,.str w,.int .i64 f,p,n,m]]) Z Z (.cons b .nil) .nil .nil (by simp only[yz,eJ,cu,o,if_true,c,PR.map];rfl)
     ·exact tD (by simp only[yz,eJ,cu,o,if_true,c,PR.map])
    ·refine b1.gone ?_;refine Jt 8 [] .cn M Q ag ((S.map pe).length+1) sm (by simp only[YO,YQ]at A⊢;omega) 6 7 dc (Sg V S) rfl (fun z an J am D B L=>?_);rcases J with _|⟨ah,G⟩
     ·repeat refine b6 ?_
      refine l.call (x+1) om v 0 _ _ ?_ (fun ak N s c b=>?_) (fun t E s c=>?_)
      ·exact Z
      ·obtain⟨q,r,u,w,f,p,n,m,rfl⟩:=b.eight;intro O;repeat refine b8 ?_
       exact zy 9 1 (els:=[[.int .i64 (YM q),.str r,.str u,.str w,.int .i64 f,p,n,m]]) Z Z (B.snoc b) .nil D (by simp only[yz,eJ,cu,o,if_true,c,PR.map];rfl)
      ·exact tD (by simp only[yz,eJ,cu,o,if_true,c,PR.map])
     ·repeat refine b6 ?_
      refine l.call (x+1) om v 0 _ _ ?_ (fun ak N s c b=>?_) (fun t E s c=>?_)
      ·exact Z
      ·obtain⟨q,r,u,w,f,p,n,m,rfl⟩:=b.eight;have H:G.length+1<=4294967296:=by simp only[YO,YQ]at L A;omega
       intro O;refine a1 ?_ ?_
       ·repeat' (first|exact tv|exact rfl|refine b0 rfl ?_|refine And.intro ?_ ?_)
       refine a1 Z (a1 ⟨Z,Z,by simp,YL _,qS H (YL _) (YN rfl)⟩ (a6 rfl (a6 (jw _) ?_)));repeat refine b8 ?_
       exact zy 9 (G.length+1+1) (Px 8 ah G [.int .i64 (YM q),.str r,.str u,.str w,.int .i64 f,p,n,m]) sm (B.snoc b) .nil D (by simp only[yz,eJ,cu,o,if_true,c,PR.map];rfl)
      ·exact tD (by simp only[yz,eJ,cu,o,if_true,c,PR.map])
   ·exact tD (by simp only[yz,eJ,cu,o,if_false,YP,PR.map])
  ·exact tD (by rw[I];rfl)
 ·refine a7 1 (cK (by simp only[funcF,cu,F,if_false,YP]))
abbrev UD(f l:List UInt8)(b:Nat)(c:List D):FE:=⟨f,0,[],[],.cn,.cn,false,l,.ps b 0 8 1 [c]⟩
def Xy:Nat->Bool:=fun b=>YS b 9||YS b 15
def Xz:Nat->Bool:=fun b=>YS b 12||YS b 18||YS b 19||YS b 23
theorem GZ(U:e.Wf)(ay:eo d e i)(l:ld cR a e i)(ag:i<e.ts.length):
  b1 C b7 nY [.bp 0 0] [dq e i] (H2 e (iW d a e i)):=by
 have bc:=U.len;refine cA Xy (fun _=>Z) ?_;refine nl e U d i ag ay 0 Z (fun X bz bp y j=>?_) (fun h ax b y=>?_)
 ·obtain⟨bw,J⟩:=jA U (fun bj X b B ak E=>ay.lt bj X b B ak E) ag y;obtain⟨aB,aE,tn,aI,aP,rfl⟩:=j.di;intro aM;refine l.call bp om J 0 _ _ ?_ (fun u d0 aN n ab=>?_) (fun h ax b n=>?_)
  ·exact Z
  ·obtain⟨bs,ah⟩:=l.lt _ _ _ om J n;obtain⟨aT,aJ,aC,af,I,g,k,aa,rfl⟩:=ab.eight;intro bl;refine gM U [123] ah bl _ 0 ?_ (fun ar aw=>?_) (fun ar b=>?_)
   ·exact Z
   ·have ai:ib [X] (.ps aM 0 5 1 [[.int .i64 (YM aB),.str aE,.str tn,aI,aP]]):=.ps (.cons j .nil) sm;have au:iL [u] [[.int .i64 (YM aT),.str aJ,.str aC,.str af,.int .i64 I,g,k,aa]]:=.cons ab .nil;have bk:iW d a e i=(fA (ic a e) e [125] [] (aN+1)).map (jv 13 [] [X] [u]):=by simp only[iW,y,n,cu,ar,if_true]
    rw[bk];generalize bv:aN+1=t at aw⊢;have l:ld cR a e t:=l.up om;refine b1.body TL (fun _=>Z) ?_;refine cG e t (e.tok t) [125] (bZ aw) om 0 ?_ (fun M=>?_) (fun M=>?_)
    ·exact Z
    ·refine AX (P:=fun N az=>∃G,ly (jv 13 [] [X] [u] []) G/\N=.ret (.agg (G.map V.d))) (dN:=[.agg (jx 13 [] _ (.d .cn) (.d .cn)),kV 0 8 [_],.d .cn]) (CY 13 [] _ ai au) 8 Z (ga 8 _) Z Z (fun N az ak=>?_);obtain⟨G,q,rfl⟩:=ak;obtain⟨R,ba,bb,S,x,d,T,W,rfl⟩:=q.eight;refine a7 1 (dK (by rw[fA,if_pos M];rfl) q)
    ·refine cl.less (eW:=[(0,.bp 0 0),(1,cq [44]),(2,cq [125]),(3,.fn p3 [] [.bp 1 0,.bp 7 0,.bp 5 0])]) ⟨Z,Z,Z,Z,tv⟩ ?_;refine cl.gone ?_;refine cl.iter (fun _:Nat×List et×List FE=>[(0,.bp 0 0),(1,cq [44]),(2,cq [125]),(3,.fn p3 [] [.bp 1 0,.bp 7 0,.bp 5 0])])
      (fun m=>[dq e m.1,.box [.bp 0 0],.box jz,.box (jx 13 [] (.ps aM 0 5 1 [[.int .i64 (YM aB),.str aE,.str tn,aI,aP]]) (.d .cn) (.d .cn)),.box [b3 aT,cq aJ,cq aC,cq af,.d (.int .i64 I),.d g,.d k,.d aa],.box [kV 8 9 (GU m.2.2)],nj (m.2.1.map et.n),.box [.map 6],kO 9 (GU m.2.2)]) (fun m=>e.ts.length-m.1)
      (fun m=>t<=m.1/\m.1<e.ts.length/\m.2.2.length<=m.1/\jS m.2.1 m.2.2/\(m.2.2.map FE.n).Nodup/\(∀ao∈m.2.1,ao.val.length<=1)/\∃D,e.ts.length-m.1<=D/\gS (ic a e) e [125] e.ts.length [] t=gS (ic a e) e [125] D m.2.1 m.1) ?_ (t,[],[]) ⟨YL _,aw,YT _,.nil,List.nodup_nil,by simp,_,by show e.ts.length-t<=e.ts.length;omega,rfl⟩
     rintro⟨b,O,H⟩ ⟨aV,aQ,aY,aO,aK,aG,D,aD,aU⟩;have bu:t<=b:=aV;have aS:b<e.ts.length:=aQ;have F:H.length<=b:=aY;have aA:jS O H:=aO;have aW:(H.map FE.n).Nodup:=aK;have bo:∀ao∈O,ao.val.length<=1:=aG;have bx:e.ts.length-b<=D:=aD;have v:gS (ic a e) e [125] e.ts.length [] t=gS (ic a e) e [125] D O b:=aU;clear aV aQ aY aO aK aG aD aU;obtain⟨D,rfl⟩:∃bm,D=bm+1:=⟨D-1,om⟩;have br:=aA.names;have c:(fA (ic a e) e [125] [] t).map (jv 13 [] [X] [u])=(gS (ic a e) e [125] (D+1) O b).map (jv 13 [] [X] [u]):=by rw[fA,if_neg (by rw[M];decide),v]
     rw[gS]at c v;refine b1.body Xz (fun _=>Z) ?_;repeat refine b6 ?_
     refine n9 e U b aS (O.map et.n) 0 6 dc Z Z (fun p f=>?_) (fun p f=>?_) (fun p=>?_)
     ·have ae:b+1<e.ts.length:=U.go b _ (bZ aS) om;repeat refine b6 ?_
      refine jR e (b+1) _ (bZ ae) om 0 ?_ (fun o=>?_) (fun o=>?_)
      ·exact Z
      ·have aL:b+1+1<e.ts.length:=U.go (b+1) _ (bZ ae) om;repeat refine b6 ?_
       intro bf;refine gM U [61,62] aL bf _ 0 ?_ (fun B Y=>?_) (fun B be=>?_)
       ·exact Z
       ·repeat refine b6 ?_
        refine l.call (b+1+1+1) om Y 0 _ _ ?_ (fun aR G r Q q=>?_) (fun h ax r Q=>?_)
        ·exact Z
        ·obtain⟨bq,ac⟩:=l.lt _ _ _ om Y Q;obtain⟨R,ba,bb,S,x,ad,T,W,rfl⟩:=q.eight;intro bA;repeat refine b8 ?_
         intro s;repeat refine b8 ?_
         intro bB;have L:jS (O++[⟨(e.tok b).text,(e.tok (b+1)).text,c1,false,[aR]⟩]) (H++[UD (e.tok b).text (e.tok (b+1)).text s [.int .i64 (YM R),.str ba,.str bb,.str S,.int .i64 x,ad,T,W]]):=aA.snoc rfl rfl rfl (.mk .nil .nil) (.ps (.cons q .nil));have w:=tx (x:=UD (e.tok b).text (e.tok (b+1)).text s [.int .i64 (YM R),.str ba,.str bb,.str S,.int .i64 x,ad,T,W]) aW br f;have K:∀ao∈O++[(⟨(e.tok b).text,(e.tok (b+1)).text,c1,false,[aR]⟩:et)],ao.val.length<=1:=by
          intro ao z;rcases YW.1 z with z|z
          ·exact bo ao z
          ·simp only[YV]at z;subst z;exact YL _
         have aH:ic a e O b=.ok (O++[⟨(e.tok b).text,(e.tok (b+1)).text,c1,false,[aR]⟩]) r:=by simp only[ic,ef,c9,p,o,ne_eq,not_true,if_false,f,eJ,cu,B,if_true,Q,PR.map]
         rw[aH]at c v;dsimp only at c v;rcases H with _|⟨ap,A⟩;all_goals
          first
           |refine a1 rfl (a1 ⟨YN rfl,YN rfl⟩ (a6 rfl ?_))
           |refine a1 rfl (a1 ⟨rfl,rfl,by simp,YL _,qS (by simp only[YO,YQ]at F⊢;omega) (YL _) (YN rfl)⟩ (a6 rfl (a6 (jw _) ?_)))
          refine cG e r (e.tok r) [125] (bZ ac) om 0 ?_ (fun E=>?_) (fun E=>?_)
          ·exact Z
          ·rw[if_pos E]at c;first
            |refine b1.two (dN:=[.agg (jx 13 [] _ (.d .cn) (.d .cn)),kV 1 8 [_],.ms 0 9 0 1 1]) (P:=fun N _ _=>∃G,ly (jv 13 [] [X] [u] _) G/\N=.ret (.agg (G.map V.d))) ((qT 13 [] _ ai au L w K (YL _) 1 rfl dc).mono (fun N aX M=>by obtain⟨t,az,aj,aq,av,an,am⟩:=M;exact⟨t,az,aj,an,aq,av,am⟩)) 10 11 dc rfl rfl (ju 0 9 _) (ga 8 _) rfl rfl (fun N bi bh M=>?_)
            |refine b1.two (dN:=[.agg (jx 13 [] _ (.d .cn) (.d .cn)),kV 1 8 [_],.ms 0 9 0 ((A.map pe).length+1+1) ((A.map pe).length+1+1)]) (P:=fun N _ _=>∃G,ly (jv 13 [] [X] [u] _) G/\N=.ret (.agg (G.map V.d))) ((qT 13 [] _ ai au L w K (YL _) ((A.map pe).length+1+1) sm (by simp only[YO,YQ]at F⊢;omega)).mono (fun N aX M=>by obtain⟨t,az,aj,aq,av,an,am⟩:=M;exact⟨t,az,aj,an,aq,av,am⟩)) 10 11 dc (CZ ap A (UD (e.tok b).text (e.tok (b+1)).text s _)) rfl (ju 0 9 _) (ga 8 _) rfl rfl (fun N bi bh M=>?_)
           obtain⟨G,q,rfl⟩:=M;obtain⟨R,ba,bb,S,x,d,T,W,rfl⟩:=q.eight;refine a7 1 (dK (by rw[c];rfl) q)
          ·rw[if_neg (by rw[E];decide)]at c v;intro bg;refine gM U [44] ac bg _ 0 ?_ (fun al aF=>?_) (fun al be=>?_)
           ·exact Z
           ·rw[tC al]at v;refine⟨(r+1,_,_),⟨by show t<=r+1;omega,aF,by simp only[YR,YO,YU]at F⊢;omega,L,w,K,D,by show e.ts.length-(r+1)<=D;omega,v⟩,by show e.ts.length-(r+1)<e.ts.length-b;omega,.pick 8 [0,1,2,3,4,5,6,7,10] ⟨rfl,rfl,rfl,rfl,tv⟩ rfl rfl rfl rfl rfl dc ⟨rfl,rfl,rfl,rfl,rfl,rfl,rfl,rfl,rfl,rfl,by first|exact wN (UD (e.tok b).text (e.tok (b+1)).text s _) rfl|exact tz ap A (UD (e.tok b).text (e.tok (b+1)).text s _) rfl,zx _ rfl,KX O ⟨(e.tok b).text,(e.tok (b+1)).text,c1,false,[aR]⟩,iA _ _ (fQ _),rfl,rfl,by first|exact wO (UD (e.tok b).text (e.tok (b+1)).text s _)|exact tA ap A (UD (e.tok b).text (e.tok (b+1)).text s _),fO _ _ _,tv⟩,rfl,rfl⟩
           ·refine a7 1 (cK (by rw[c];simp only[cu,al,if_false,YP,PR.map]))
        ·refine a7 1 (cK (by rw[c];simp only[ic,ef,c9,p,o,ne_eq,not_true,if_false,f,eJ,cu,B,if_true,Q,PR.map]))
       ·refine a7 1 (cK (by rw[c];simp only[ic,ef,c9,p,o,ne_eq,not_true,if_false,f,eJ,cu,B,YP,PR.map]))
      ·refine a7 1 (cK (by rw[c];simp only[ic,ef,c9,p,o,ne_eq,not_true,not_false_eq_true,if_false,f,if_true,PR.map]))
     ·refine a7 1 (cK (by rw[c];simp only[ic,ef,p,ne_eq,not_true,if_false,f,if_true,PR.map]))
     ·refine a7 1 (cK (by rw[c];simp only[ic,ef,p,ne_eq,not_false_eq_true,if_true,PR.map]))
   ·refine a7 1 (cK (by simp only[iW,y,n,cu,ar,if_false,YP]))
  ·refine a7 1 (cK (by simp only[iW,y,n]))
 ·refine a7 1 (cK (by simp only[iW,y]))
abbrev uc(f:Rd)(lo:Nat)(fn:Nat->PR Ex):Prop:=∀b l c,lo<=b->b<f.ts.length->fn b=.ok l c->b<c/\c<f.ts.length
abbrev Jv(f:Rd)(lo:Nat)(fn:Nat->PR Ty):Prop:=∀b l c,lo<=b->b<f.ts.length->fn b=.ok l c->b<c/\c<f.ts.length
variable{k:Ex} {h:List UInt8}
theorem ke(n:e.Wf){lo:Nat}(c:uc e lo a){p b:Nat}(l:lo<=p)(f:p<e.ts.length)(m:eJ a e h p=.ok k b):p<b/\b<e.ts.length:=K1 n c l f (.inr m)
theorem oa(o:e.Wf){p b:Nat}{n:Unit}(f:p<e.ts.length)(m:cu e [h] p=.ok n b):p<b/\b<e.ts.length:=by
 have c:=cH _ _ _ m;have l:=c8 o _ _ _ f m;simp only[YO,YU]at c;exact⟨om,l⟩
theorem Sk(o:e.Wf){lo:Nat}(c:uc e lo a):uc e lo (qX a e):=by
 intro z y B r f b;rw[qX]at b;split at b
 ·cases b
 rename_i s q n;obtain⟨x,u⟩:=fB o f n;split at b
 ·cases b
 rename_i A v m;obtain⟨C,t⟩:=ke o c om u m;obtain⟨w,l,_⟩:=du b;obtain⟨D,p⟩:=ke o c om t l;exact⟨om,p⟩
theorem Pz(t:e.Wf){lo:Nat}(m:Jv e lo d)(f:uc e lo a):uc e lo (kH d a e):=by
 intro I G u x l b;rw[kH]at b;split at b
 ·cases b
 rename_i s n p;obtain⟨F,C⟩:=jA t (fun q D u A=>m q D u om) l p;split at b
 ·cases b
 rename_i B r o;obtain⟨J,z⟩:=f n B r om C o;split at b
 ·cases b
 rename_i v y c;obtain⟨K,w⟩:=ke t f om z c;obtain⟨v,c,_⟩:=du b;obtain⟨H,E⟩:=ke t f om w c;exact⟨om,E⟩
theorem MI(m:e.Wf){lo:Nat}(q:Jv e lo d)(o:uc e lo a):uc e lo (iW d a e):=by
 intro E L w r f b;rw[iW]at b;split at b
 ·cases b
 rename_i s n l;obtain⟨A,v⟩:=jA m (fun y H w F=>q y H w om) f l;split at b
 ·cases b
 rename_i G p u;obtain⟨J,t⟩:=o n G p om v u;split at b
 ·cases b
 rename_i z D c;obtain⟨N,B⟩:=oa m t c;obtain⟨z,c,_⟩:=du b;have:=wQ m (lo:=lo) (fun A E C w r f b=>?_) om B c
 ·exact⟨om,this.2⟩
 ·rw[ic]at b;split at b
  ·cases b
  rename_i s n l;obtain⟨A,v⟩:=xR m f l;split at b
  ·cases b
  rename_i K p x;obtain⟨J,t⟩:=fB m v x;obtain⟨z,c,_⟩:=du b;obtain⟨M,I⟩:=ke m o om t c;exact⟨om,I⟩
theorem PA(l:e.Wf){lo:Nat}(o:Jv e lo d)(f:uc e lo a):uc e lo (jb d a e):=by
 intro O M t z n c;rw[jb]at c;split at c
 ·cases c
 rename_i s y q;obtain⟨K,F⟩:=jA l (fun r H t D=>o r H t om) n q;split at c
 ·cases c
 rename_i P J p;obtain⟨R,C⟩:=fB l F p;split at c
 ·cases c
 rename_i m A b;obtain⟨S,v⟩:=oa l C b;split at c
 ·cases c
 rename_i m E b;obtain⟨N,I⟩:=fB l v b;split at c
 ·cases c
 rename_i m B b;obtain⟨L,x⟩:=ke l f om I b;split at c
 ·cases c
 rename_i m w b;obtain⟨T,G⟩:=ke l f om x b;obtain⟨m,b,_⟩:=du c;obtain⟨Q,u⟩:=ke l f om G b;exact⟨om,u⟩
theorem PB(n:e.Wf){lo:Nat}(t:Jv e lo d)(p:uc e lo a):uc e lo (funcF d a e):=by
 intro G J D v c b;rw[funcF]at b;split at b
 ·cases b
 rename_i s u l;obtain⟨A,y⟩:=oa n c l;split at b
 ·cases b
 rename_i L q x;have w:=wQ n (lo:=lo) (fun A G F D v c b=>?_) om y x
 ·obtain⟨z,f,_⟩:=du b;obtain⟨M,E⟩:=ke n p om w.2 f;exact⟨om,E⟩
 ·rw[hR]at b;split at b
  ·cases b
  rename_i s u l;obtain⟨A,y⟩:=xR n c l;split at b
  ·cases b
  rename_i B q m;obtain⟨N,H⟩:=oa n y m;split at b
  ·cases b
  rename_i B o m;obtain⟨O,C⟩:=t q B o om H m;split at b
  ·rename_i r;obtain⟨z,f,_⟩:=du b;obtain⟨K,I⟩:=p (o+1) z D om (n.step C r) f;exact⟨om,I⟩
  ·cases b;exact⟨om,C⟩
theorem MJ(u:e.Wf){lo:Nat}(q:Jv e lo d){s:List UInt8}{p o:Nat}(w:lo<=p)(l:p<e.ts.length)(f:gm d e s p=.ok k o):p<=o/\o<e.ts.length:=by
 rw[gm]at f;split at f
 ·cases f
 ·rename_i B D C n c;have m:p<=n/\n<e.ts.length:=by
   split at c
   ·rename_i t;obtain⟨v,b,_⟩:=du c;obtain⟨A,y⟩:=fB u (u.step l t) b;exact⟨om,y⟩
   ·cases c;exact⟨YL _,l⟩
  split at f
  ·obtain⟨v,b,_⟩:=du f;have:=AU u (fun r z o x=>q r z o om) m.2 b;exact⟨om,this.2⟩
  ·cases f;exact m
theorem PC(n:e.Wf){lo:Nat}(v:Jv e lo d)(t:uc e (lo+1) a):uc e lo (e7 d a e):=by
 intro w J F z f b;have y:(e.tok w).kind≠0->w+1<e.ts.length:=fun b=>n.go w _ (bZ f) b;rw[e7]at b;split at b
 ·exact K0 n f b
 split at b
 ·cases b;exact⟨om,y om⟩
 split at b
 ·have:=MJ n v om (y om) b;exact⟨om,this.2⟩
 split at b
 ·rename_i c;have:=n.step f c;cases b;exact⟨om,this⟩
 split at b
 ·rename_i c;have:=n.step f c;cases b;exact⟨om,this⟩
 split at b
 ·rename_i c;obtain⟨B,u⟩:=xS n t om (n.step f c) b;exact⟨om,u⟩
 split at b
 ·rename_i c;have m:=n.step f c;split at b
  ·cases b
  rename_i s p q;obtain⟨B,u⟩:=fB n m q;split at b
  ·cases b
  rename_i E r o;obtain⟨G,A⟩:=ke n t om u o;obtain⟨x,l,_⟩:=du b;obtain⟨I,C⟩:=oa n A l;exact⟨om,C⟩
 split at b
 ·rename_i c;have m:=n.step f c;split at b
  ·cases b
  rename_i s p q;obtain⟨B,u⟩:=v (w+1) s p om m q;split at b
  ·cases b
  rename_i E r o;obtain⟨G,A⟩:=oa n u o;obtain⟨x,l,_⟩:=du b;have:=wQ n (lo:=lo+1) (fun B w H F z f b=>by
   obtain⟨x,l,_⟩:=du b;exact t w x F z f l) om A l
  exact⟨om,this.2⟩
 split at b
 ·rename_i c;have m:=n.step f c;split at b
  ·cases b
  rename_i s p q;obtain⟨B,u⟩:=t (w+1) s p om m q;split at b
  ·cases b
  rename_i E r o;have D:p<=r/\r<e.ts.length:=by
   split at o
   ·rename_i c;obtain⟨x,l,_⟩:=du o;obtain⟨G,A⟩:=v (p+1) x r om (n.step u c) l;exact⟨om,A⟩
   ·cases o;exact⟨YL _,u⟩
  obtain⟨x,l,_⟩:=du b;obtain⟨I,C⟩:=oa n D.2 l;exact⟨om,C⟩
 ·cases b
theorem UE(q:e.Wf){lo:Nat}(m:Jv e (lo+1) d)(l:uc e (lo+1) a)(s:uc e lo (MB d a e)):uc e lo (y5 d a e):=by
 intro n p o t r c;have f:(e.tok n).kind=5->n+1<e.ts.length:=fun c=>q.go n _ (bZ r) om;rw[y5]at c;split at c
 ·rename_i b;have:=Sk q l (n+1) p o om (f b.1) c;exact⟨om,this.2⟩
 split at c
 ·rename_i b;have:=Pz q m l (n+1) p o om (f b.1) c;exact⟨om,this.2⟩
 split at c
 ·rename_i b;have:=MI q m l (n+1) p o om (f b.1) c;exact⟨om,this.2⟩
 split at c
 ·rename_i b;have:=PA q m l (n+1) p o om (f b.1) c;exact⟨om,this.2⟩
 split at c
 ·rename_i b;have:=PB q m l (n+1) p o om (f b.1) c;exact⟨om,this.2⟩
 exact s n p o t r c
theorem sK{v:FuncId}{p:Nat}{f:PR Ex}(o:b1 C b7 v [.bp 0 0] [dq e p] (H2 e f))(m:Nat)(l:nth j m=some (dq e p))(q:∀u n c,f=.ok u c->ly u n->g (.ret (.agg (n.map V.d))) (j.set m (dq e c))) 
  (t:∀b x c,f=.bad b x->g (.eE (dt b x)) (j.set m (dq e c))):b1 C b7 v [.bp m 0] j g:=by
 refine b1.one (dN:=[.bp 0 0]) (P:=MC e f) o m l Z Z Z (fun z w o=>?_);cases f with
 |ok y c=>
  obtain⟨rfl,n,r,rfl⟩:=o;exact q y n c Z r
 |bad b s=>
  obtain⟨c,rfl,rfl⟩:=o;exact t b s c Z
def yA:List pP:=[⟨cq [108,101,116],.fn qF [.bp 0 0] [],0⟩,⟨cq [105,102],.fn jq [.bp 0 0] [],1⟩,⟨cq [109,97,116,99,104],.fn nY [.bp 0 0] [],2⟩,⟨cq [102,111,108,100],.fn pv [.bp 0 0] [],3⟩,⟨cq [102,110],.fn k3 [.bp 0 0] [],4⟩]
theorem Jw(f:h≠[108,101,116])(b:h≠[105,102])(m:h≠[109,97,116,99,104])(c:h≠[102,111,108,100])(l:h≠[102,110]):eN .string (cq h) yA 0=some none:=by
 unfold yA;rw[eY,decide_eq_false f,eY,decide_eq_false b,eY,decide_eq_false m,eY,decide_eq_false c,eY,decide_eq_false l];rfl
theorem Jx(A:e.Wf){p:Nat}(y:eo d e (p+1))(s:ld cR a e (p+1))(z:ld oY (MB d a e) e p)(o:p<e.ts.length):
  b1 C b7 cR [.bp 0 0] [dq e p] (H2 e (y5 d a e p)):=by
 have H:=A.len;refine cz ?_;refine b4 none Z ?_;refine b4 none Z ?_;refine b4 none Z ?_;refine b4 none Z ?_;refine b4 none Z ?_;refine ei e p _ (bZ o) 0 Z ?_;by_cases c:(e.tok p).kind=5
 ·refine a8 (wR c) ?_;have q:p+1<e.ts.length:=A.go p _ (bZ o) om;have r:dW (e.tok p) p=p+1:=by rw[dW,if_neg om]
  by_cases t1:(e.tok p).text=[108,101,116]
  ·refine b4 (some (0,.fn qF [.bp 0 0] [])) (show eN .string (cq (e.tok p).text) yA 0=_ by rw[t1];rfl) ?_;refine dr e p _ (bZ o) om 0 Z ?_;rw[r];refine sK (MG A s q) 0 Z (fun B E x f b=>?_) (fun m t x f=>?_)
   ·obtain⟨D,G,F,v,l,n,w,u,rfl⟩:=b.eight;refine a7 1 (dK (by simp only[y5,c,t1,true_and,if_true,if_false];exact f) b)
   ·refine a7 1 (cK (by simp only[y5,c,t1,true_and,if_true,if_false];exact f))
  by_cases t2:(e.tok p).text=[105,102]
  ·refine b4 (some (1,.fn jq [.bp 0 0] [])) (show eN .string (cq (e.tok p).text) yA 0=_ by rw[t2];rfl) ?_;refine dr e p _ (bZ o) om 0 Z ?_;rw[r];refine sK (Jo A y s q) 0 Z (fun B E x f b=>?_) (fun m t x f=>?_)
   ·obtain⟨D,G,F,v,l,n,w,u,rfl⟩:=b.eight;refine a7 1 (dK (by simp only[y5,c,t1,t2,true_and,if_true,if_false];exact f) b)
   ·refine a7 1 (cK (by simp only[y5,c,t1,t2,true_and,if_true,if_false];exact f))
  by_cases t3:(e.tok p).text=[109,97,116,99,104]
  ·refine b4 (some (2,.fn nY [.bp 0 0] [])) (show eN .string (cq (e.tok p).text) yA 0=_ by rw[t3];rfl) ?_;refine dr e p _ (bZ o) om 0 Z ?_;rw[r];refine sK (GZ A y s q) 0 Z (fun B E x f b=>?_) (fun m t x f=>?_)
   ·obtain⟨D,G,F,v,l,n,w,u,rfl⟩:=b.eight;refine a7 1 (dK (by simp only[y5,c,t1,t2,t3,true_and,if_true,if_false];exact f) b)
   ·refine a7 1 (cK (by simp only[y5,c,t1,t2,t3,true_and,if_true,if_false];exact f))
  by_cases t4:(e.tok p).text=[102,111,108,100]
  ·refine b4 (some (3,.fn pv [.bp 0 0] [])) (show eN .string (cq (e.tok p).text) yA 0=_ by rw[t4];rfl) ?_;refine dr e p _ (bZ o) om 0 Z ?_;rw[r];refine sK (Jp A y s q) 0 Z (fun B E x f b=>?_) (fun m t x f=>?_)
   ·obtain⟨D,G,F,v,l,n,w,u,rfl⟩:=b.eight;refine a7 1 (dK (by simp only[y5,c,t1,t2,t3,t4,true_and,if_true,if_false];exact f) b)
   ·refine a7 1 (cK (by simp only[y5,c,t1,t2,t3,t4,true_and,if_true,if_false];exact f))
  by_cases t5:(e.tok p).text=[102,110]
  ·refine b4 (some (4,.fn k3 [.bp 0 0] [])) (show eN .string (cq (e.tok p).text) yA 0=_ by rw[t5];rfl) ?_;refine dr e p _ (bZ o) om 0 Z ?_;rw[r];refine sK (Ju A y s q) 0 Z (fun B E x f b=>?_) (fun m t x f=>?_)
   ·obtain⟨D,G,F,v,l,n,w,u,rfl⟩:=b.eight;refine a7 1 (dK (by simp only[y5,c,t1,t2,t3,t4,t5,true_and,if_true,if_false];exact f) b)
   ·refine a7 1 (cK (by simp only[y5,c,t1,t2,t3,t4,t5,true_and,if_true,if_false];exact f))
  refine b4 none (show eN .string (cq (e.tok p).text) yA 0=_ from Jw t1 t2 t3 t4 t5) ?_;refine z.call p (YL _) o 0 _ _ Z (fun B E x f b=>?_) (fun m t x f=>?_)
  ·obtain⟨D,G,F,v,l,n,w,u,rfl⟩:=b.eight;refine a7 1 (dK (by simp only[y5,c,t1,t2,t3,t4,t5,true_and,if_false];exact f) b)
  ·refine a7 1 (cK (by simp only[y5,c,t1,t2,t3,t4,t5,true_and,if_false];exact f))
 ·refine a6 (zz c) ?_;refine z.call p (YL _) o 0 _ _ Z (fun B E x f b=>?_) (fun m t x f=>?_)
  ·obtain⟨D,G,F,v,l,n,w,u,rfl⟩:=b.eight;refine a7 1 (dK (by simp only[y5,c,false_and,if_false];exact f) b)
  ·refine a7 1 (cK (by simp only[y5,c,false_and,if_false];exact f))
theorem UF(c:e.Wf)(f:e.Ng){lo:Nat}(m:eo d e lo)(b:ld cR a e (lo+1)):ld oY (MB d a e) e lo:=by
 have s:ld lR (e7 d a e) e lo:=ld.of (fun p q n r l t=>PC c (fun p q n t=>m.lt p q n om) (fun p q n t=>b.lt p q n om) p q n r l t) (fun p r l=>Js c f ⟨fun o z n t=>m.lt o z n om,fun o t=>m.call o om⟩ (b.up om) l);have u:=UB c s b;have v:=VW c f u e.ts.length lo e.ts.length (YL _) om om;have x:=VO c v;have y:=VP c x;have w:=VV c y e.ts.length lo e.ts.length (YL _) om om;exact Xh c (VT c w)
theorem TN(o:e.Wf)(p:e.Ng):∀(n lo:Nat),e.ts.length-lo<=n->ld cR (AW e n) e lo:=by
 intro n;induction n with
 |zero=>intro lo r;exact⟨fun l u q c b=>om,fun l c b=>om⟩
 |succ n m=>
  intro lo r;have f:ld oY (MB (de e e.ts.length) (AW e n) e) e lo:=UF o p (AZ o e.ts.length lo om) (m (lo+1) om);have t:=AZ o e.ts.length lo om;refine ld.of (fun l s q c b r=>UE o (lo:=lo) (fun l s q r=>t.lt l s q om) (m (lo+1) om).lt f.lt l s q c b r) (fun l c b=>?_);exact Jx o (AZ o e.ts.length (l+1) om) (m (l+1) om) (f.up c) b
def dL:List UInt8->List (List UInt8)
 |[]=>[[]]
 |c::b=>if c.toNat=47 then []::dL b else match dL b with
  |[]=>[[c]]
  |x::f=>(c::x)::f
def uy:List UInt8->Bool
 |[]=>false
 |v::b=>decide (v=118)&&(!decide (b=[])&&(decide (b.length<=3)&&(!(decide (1<b.length)&&decide (YM (b.headD 0).toNat=48))&&b.all isDigit)))
def wT(c:UInt8):Bool:=e4 c||isDigit c
def gB(b:List UInt8):Bool:=uy ((dL b).getLastD [])&&(decide (b.length<=64)&&(decide (2<=(dL b).length)&&(dL b).all fun c=>cM c&&c.all wT))
theorem G0(c:0<i)(f:i<9223372036854775807):IntKind.i64.wrap (YM i-1)=YM (i-1):=by
 obtain⟨b,rfl⟩:∃b,i=b+1:=⟨i-1,om⟩;rw[show YM (b+1)-1=YM b+YM 0 by simp only[YY];omega];exact dg om
theorem p9(s:List UInt8):dL s≠[]:=by
 cases s with
 |nil=>simp[dL]
 |cons b c=>
  rw[dL];split
  ·simp
  ·split<;>simp
theorem A2(s:List UInt8):(dL s).length=countB 47 s+1:=by
 induction s with
 |nil=>rfl
 |cons m l b=>
  rw[dL,countB];by_cases f:m.toNat=47
  ·rw[if_pos f,f];simp[b]
  ·rw[if_neg f,show YS m.toNat 47=false by rw[<-Bool.not_eq_true,Nat.beq_eq];exact f];cases c:dL l with
   |nil=>exact absurd c (p9 l)
   |cons n o=>rw[c]at b;simpa using b
theorem G1(b:List UInt8):∀c,(indexByte b 47 c= -1/\dL b=[b])∨∃f,f<b.length/\indexByte b 47 c=YM (c+f)/\dL b=b.take f::dL (b.drop (f+1)):=by
 induction b with
 |nil=>intro c;exact .inl ⟨rfl,rfl⟩
 |cons p r m=>
  intro c;rw[dL,indexByte];by_cases l:p.toNat=47
  ·rw[if_pos l,l];exact .inr ⟨0,by simp,rfl,rfl⟩
  ·rw[if_neg l,show YS p.toNat 47=false by rw[<-Bool.not_eq_true,Nat.beq_eq];exact l];rcases m (c+1)with⟨o,n⟩|⟨f,o,n,q⟩
   ·exact .inl ⟨o,by rw[n]⟩
   ·refine .inr ⟨f+1,by simpa using o,?_,by rw[q];rfl⟩;rw[show c+(f+1)=c+1+f by omega];exact n
theorem MK(b:List UInt8):C.ext rJ ([D.str b,sc 47].map cx)=some (cx (.int .i64 (YM (countB 47 b)))):=rfl
theorem index_spec(f:List UInt8){n:Int}(c:indexByte f 47 0=n)(b:g (.ret (.d (.int .i64 n))) j):b1 C b7 yU [cq f,cq [47]] j g:=by
 refine b9 ?_;refine b9 ?_;apply aZ<;>intro m
 ·have l: [47]=f:=of_decide_eq_true m;subst l;subst c;repeat refine a8 m ?_
  exact b
 ·repeat refine a6 m ?_
  refine b0 Z (b4 47 Z ?_);refine rB f 47 ?_;subst c;exact b
def Sl(l:List (List UInt8))(c:Nat):List (List V):=l.map (fun b=>[cq b])++uO [cq []] c
theorem K5{l:List (List UInt8)}{n c:Nat}(b:n=c+1):nth (Sl l n) (0+l.length)=some [cq []]:=by
 subst b;rw[cv,Sl,YX,List.getElem?_append_right sm];simp only[YQ,Nat.sub_self];rfl
theorem K6{l:List (List UInt8)}{n c:Nat}(f:n=c+1)(b:List UInt8):(Sl l n).set (0+l.length) [cq b]=Sl (l++[b]) c:=by
 subst f;rw[Sl,YX,List.set_append_right _ _ sm];simp only[YQ,Nat.sub_self,Sl,List.map_append,List.append_assoc];rfl
theorem UG{l:List (List UInt8)}{f:List UInt8}{n:Nat}(b:n=0+1)(c:dL f=l++[h]):(Sl l n).set (0+l.length) [cq h]=(eQ (dL f)).map fun m=>m.map V.d:=by
 rw[K6 b,c];simp[Sl,eQ,uO,Function.comp_def];exact⟨fun _ _=>Z,Z⟩
theorem G2(c:List UInt8)(J:c.length<4294967296):b1 C b7 rv [cq c,cq [47]] [] fun b E=>E=[]/\cN b=true/\∃p A,b=.ret (.d (.ps p 0 1 A (eQ (dL c)))):=by
 have N:countB 47 c<=c.length:=by
  clear J;induction c with
  |nil=>exact YL _
  |cons S b R=>
   rw[countB];split<;>simp only[YO]<;>omega
 have x:=A2 c;refine cz ?_;refine b9 ?_;refine b9 ?_;refine b0 Z (b4 47 Z ?_);refine Ep (.int .i64 (YM (countB 47 c))) (MK c) Z ?_;obtain⟨f,F⟩:∃f,f=countB 47 c:=⟨_,rfl⟩;have q:min (IntKind.i64.wrap (YM (countB 47 c)+1)) (IntKind.i64.wrap (YM c.length+1))=YM (f+1):=by
  rw[cp om,cp om,F];simp only[YY];omega
 refine b0 q ?_;refine a1 ⟨Z,?_,?_⟩ ?_
 ·show(f+1)*16<=_;omega
 ·omega
 refine cl.less (eW:=[(0,cq c),(1,cq [47]),(2,b3 0),(3,b3 f),(9,.ms 0 1 0 (f+1) (f+1)),(10,b3 0)]) ⟨Z,Z,Z,int_eq (by show IntKind.i64.wrap (min _ _-1)=_;rw[q];exact G0 om om),rfl,rfl,tv⟩ ?_;refine cl.iter (fun n:List (List UInt8)×List UInt8=>[(0,cq n.2),(1,cq [47]),(2,b3 0),(3,b3 f),(9,.ms 0 1 0 (f+1) (f+1)),(10,b3 n.1.length)]) (fun n=>[.row 1 (Sl n.1 (f+1-n.1.length))]) (fun n=>n.2.length)
  (fun n=>dL c=n.1++dL n.2/\n.2.length<=c.length) ?_ ([],c) ⟨rfl,YL _⟩
 rintro⟨l,b⟩ ⟨B,w⟩;have v:dL c=l++dL b:=B;have L:b.length<=c.length:=w;have u:l.length+(dL b).length=f+1:=by rw[<-YR,<-v,x,F]
 clear B w;have H:0<(dL b).length:=YZ.2 (p9 b);obtain⟨z,r⟩:∃z,(dL b).length=z+1:=⟨(dL b).length-1,om⟩;have o:f+1-l.length=z+1:=om;apply aZ<;>intro M
 ·have G:l.length<f:=fF M;rcases G1 b 0 with⟨_,n⟩|⟨m,n,p,I⟩
  ·rw[n]at r;simp at r;omega
  ·rw[YX]at p;refine index_spec b p ?_;refine b0 (m:=m) (dg (b:=0) om) ?_;refine a1 ⟨YT _,by show m<=b.length;omega⟩ ?_;refine b0 Z ?_;refine a1 (by show l.length<f+1;omega) ?_;refine b4 [cq []] (K5 o) ?_;refine b0 (m:=m+1) (dg (b:=1) om) ?_;refine a1 ⟨by show m+1<=b.length;omega,YL _⟩ ?_;have t:f+1-(l++[b.take m]).length=z:=by simp only[YR,YO,YU];omega
   refine⟨(l++[b.take m],b.drop (m+1)),⟨by rw[v,I];simp,by show(b.drop (m+1)).length<=c.length;rw[List.length_drop];omega⟩,by show(b.drop (m+1)).length<b.length;rw[List.length_drop];omega,.same ⟨congrArg (fun O=>some (cq (List.drop (m+1) O))) List.take_length,rfl,rfl,rfl,rfl,int_eq (by show IntKind.i64.wrap (YM l.length+1)=YM (l++[b.take m]).length;rw[cp om];simp),tv⟩ (congrArg (fun t=>[cL.row 1 t]) ((K6 o (b.take m)).trans (by rw[t]))),rfl,rfl⟩
 ·have G:f<=l.length:=dR M;have D:dL b=[b]:=by
   rcases G1 b 0 with⟨_,n⟩|⟨m,_,_,I⟩
   ·exact n
   ·have Q:0<(dL (b.drop (m+1))).length:=YZ.2 (p9 _);rw[I,YO]at u;omega
  have y:z=0:=by rw[D]at r;simpa using r.symm
  subst y;refine b0 Z ?_;refine a1 (by show l.length<f+1;omega) ?_;refine b4 [cq []] (K5 o) ?_;refine b0 (m:=l.length+1) (cp (by show l.length<_;omega)) ?_;refine a1 ⟨YT _,by show l.length+1<=f+1;omega,YL _,YT _,rfl,rfl,rfl⟩ ?_;have s:dL c=l++[b]:=by rw[v,D]
  have K:l.length+1=(eQ (dL c)).length:=by rw[s];simp[eQ]
  refine cP.freeze 0 (es:=1) (l:=eQ (dL c)) (congrArg (fun t=>some (cL.row 1 t)) (UG o s)) (fZ _) (fun _=>⟨Z,by show 0+0+(l.length+1-0)<=_;omega⟩) (fun p=>?_);have t:uZ 0 p (eQ (dL c)) (.ret (.ms 0 1 0 (l.length+1) (f+1)))=.ret (.d (.ps p (0*1) 1 (f+1) (eQ (dL c)))):=by
   show dC.ret (nf 0 p (eQ (dL c)) (.ms 0 1 0 (l.length+1) (f+1)))=_;rw[nf,jQ];show dC.ret (V.d (.ps p (0*1) 1 (f+1) (((eQ (dL c)).drop 0).take (l.length+1))))=_;rw[eH _ _ K]
  show cP 0 (uZ 0 p (eQ (dL c)) (.ret (.ms 0 1 0 (l.length+1) (f+1)))) _ _;rw[t];refine cP.drop 0 Z (by rw[ln]) rfl (cP.now rfl ?_);exact⟨Z,Z,p,f+1,Z⟩
end Go.Proofs.YtpejealjkmhkgaaGreatDoor
