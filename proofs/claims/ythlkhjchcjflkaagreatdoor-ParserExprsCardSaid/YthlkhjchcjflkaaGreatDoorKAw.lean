/- Part of the proof. -/
import Derived.Test.YthlkhjchcjflkaaGreatDoorKAv
set_option linter.all false
set_option maxHeartbeats 16000000
set_option maxRecDepth 100000
open List renaming length_map->Yl,length_append->Yo,take_of_length_le->Yp,length_take->Yq,length_zip->Ys,length_cons->Yv,length_drop->Yw,map_append->Yx,filterMap_cons->Yy,zip_cons_cons->YA
open Nat renaming zero_add->Ym,le_of_eq->Yn,beq->Yr,zero_le->Yu,le_refl->Yz
open Int renaming ofNat->Yt
namespace Go.Proofs.YthlkhjchcjflkaaGreatDoor
open Go.AM Go.VM
def VA:Nat->Bool:=fun c=>Yr c 64||Yr c 76||Yr c 1000014||Yr c 1000008
def XF(e f:Nat)(xs c:List (List D)):Tm:=[(1,.bp 0 0),(4,.bp 1 0),(5,.d (.ps e 0 8 xs.length xs)),(6,.d (.ps f 0 8 c.length c))]
def P7(e f:Nat)(xs c:List (List D)):Tm:=[(1,.bp 0 0),(4,.bp 1 0),(5,.d (.ps e 0 8 xs.length xs)),(6,.d (.ps f 0 8 c.length c)),(9,.bp 2 0)]
def T9(e f:Nat)(xs c:List (List D))(i:List UInt8)(t:Nat):Tm:=[(1,.bp 0 0),(4,.bp 1 0),(5,.d (.ps e 0 8 xs.length xs)),(6,.d (.ps f 0 8 c.length c)),(7,cE i),(9,.bp 2 0),(10,b6 t)]
variable{b:Nat->PR Ex} {g:Rd}
theorem R3(T:g.Wf){lo:Nat}(aW:kW dP one b g lo)(aE:iD g lo b)(l:RS)(az:l.p<g.ts.length)(B:l.ge lo):
  b3 C cn uB [l.v g] [] fun bt bf=>bf=[]/\cX bt=true/\We (dK (fD b g) g [125] []) g lo l bt:=by
 have bj:=T.len;refine cy VA (fun _=>Z) ?_;refine cJ g l [125] az ?_;cases aG:l.is g [125]with
 |true=>
  obtain⟨t,J⟩:=dL aG;have ak:=fX B t;refine cP g l om ?_;refine P6 (i:=2) (j:=3) (n:=0) (xs:=[]) (ks:=[]) (x:=l.next) dc Z Z Z Z (fun j p=>?_);refine us (acc:=[]) (xs:=[]) (ks:=[]) ⟨.nil,.nil,by simp[H3],by simp⟩ (Yu _) (T.step az J) B.next (fun F=>absurd t F) (fun _=>?_)
  rw[dK,if_pos J,ak];exact .ok Z
 |false=>
  refine b5.loop ?_;refine dT g T l 1 az ?_;refine oe 2 Z (fun aK=>?_);refine hP [] _ aK 0 dc ?_;refine ft ?_;have aI:=fv T (k:=1) dc az;have I:=fv T (k:=1) dc aI;have ah:=cY T (s:=[61,62]) I;refine dT g T _ 1 aI ?_;refine cG g T _ [61,62] I ?_;refine aW.call _ ah (B.word.word.expect) _ _ (fun h W U X d q Y k an H r E R=>?_);have ag:l.stay an:=((RS.stay.word.trans .word).trans .expect).trans E;have n:l.e=0->eO (fD b g [] l.p) an (fun K=>∃m,K=[⟨l.dm g 1,(l.word g 1).dm g 1,eM,false,[m]⟩]/\hY m [h,W,U,X,d,q,Y,k]):=fun t=>by
   have ak:=fX B t;rw[Lo];have aa:=mV (R:=g) (acc:=[]) (q:=l.p) (b:=false) sm;rw[if_neg (fun F=>by cases F),<-ak]at aa;refine eO.bind aa ((RS.stay.word.trans .expect).trans E) (fun s i ay aL=>?_);have aB:=eO.name g i;rw[<-ay]at aB;refine eO.bind aB (RS.stay.expect.trans E) (fun v bp Q aN=>?_);refine eO.map (eO.val Q B.word.word E R) (fun m F=>⟨m,by rw[aL,aN];rfl,F⟩)
  have ar:l.e=0->dK (fD b g) g [125] [] l.p=eY (fD b g) g [125] g.ts.length [] l.p:=fun t=>by rw[dK,if_neg (by rw[cM aG t];decide)]
  apply aZ<;>intro J
  ·repeat refine e4 ?_
   have ap:an.e≠0:=fun z=>by rw[z]at J;cases J
   repeat refine b1 ?_
   refine a6 0 ⟨Z,Z,.cC,.cC,an,H,r,ag,⟨_,.nil⟩,⟨_,.nil⟩,Yu _,fun t=>?_,Z⟩;rw[ar t];obtain⟨ae,aa⟩:∃ae,g.ts.length=ae+1:=⟨g.ts.length-1,om⟩;rw[aa,eY];have a:=n t;cases x:fD b g [] l.p with
   |bad bi z=>rw[x]at a;exact a
   |ok K i=>rw[x]at a;exact absurd (by rw[a.1];rfl) ap
  ·repeat refine e4 ?_
   have N:an.e=0:=iZ J;have t:l.e=0:=by
    by_cases F:l.e=0
    ·exact F
    ·rw[ag F]at N;exact absurd N F
   have ak:=fX B t;obtain⟨m,e,u,rfl,ai⟩:∃m e,fD b g [] l.p=.ok [⟨l.dm g 1,(l.word g 1).dm g 1,eM,false,[m]⟩] e/\an=cu e/\hY m [h,W,U,X,d,q,Y,k]:=by
    have a:=n t;cases x:fD b g [] l.p with
    |bad bi z=>rw[x]at a;exact absurd (a.2.2.symm.trans N) a.1
    |ok K i=>rw[x]at a;obtain⟨au,m,rfl,aM⟩:=a;exact⟨m,i,rfl,au,aM⟩
   have M:Iq [⟨l.dm g 1,(l.word g 1).dm g 1,eM,false,[m]⟩] [xr (l.dm g 1) ((l.word g 1).dm g 1)] [[h,W,U,X,d,q,Y,k]]:=Iq.ins (acc:=[]) (xs:=[]) (ks:=[]) ⟨.nil,.nil,by simp[H3],by simp⟩ sm ai;obtain⟨f0,ba⟩:∃ae,g.ts.length=ae+1:=⟨g.ts.length-1,om⟩;have P:=ar t;rw[ba,eY,u]at P;dsimp only at P;repeat first
    |refine bZ rfl ?_
    |intro am
    |refine zG ?_
    |refine a8 rfl ?_
    |refine a1 rfl ?_
   refine b5.freeze 7 [(1,.bp 0 0),(4,.bp 1 0),(5,.ms 7 8 0 1 1),(6,.ms 9 8 0 1 1),(9,.bp 4 0)] (l:=[xr (l.dm g 1) ((l.word g 1).dm g 1)]) Z Z ⟨Z,Z,Z,Z,Z,tv⟩ ⟨tv,tv,fun _=>⟨Z,Yz _⟩,(fun F=>by cases F),tv,tv⟩ (fun j=>?_);refine b5.freeze 9 [(1,.bp 0 0),(4,.bp 1 0),(5,.d (.ps j 0 8 1 [xr (l.dm g 1) ((l.word g 1).dm g 1)])),(6,.ms 9 8 0 1 1),(9,.bp 4 0)] (l:=[[h,W,U,X,d,q,Y,k]]) Z Z ⟨Z,Z,Z,Z,Z,tv⟩ ⟨tv,tv,tv,fun _=>⟨Z,Yz _⟩,tv,tv⟩ (fun p=>?_);refine cw (eh:=P7 j p [xr (l.dm g 1) ((l.word g 1).dm g 1)] [[h,W,U,X,d,q,Y,k]]) (fN:=mj g l (cu e)) (.pick 2 [0,1,4] ⟨Z,Z,Z,Z,Z,tv⟩ Z Z Z Z Z dc ⟨Z,Z,Z,Z,Z,Z,tv⟩) ?_;refine ft ?_;refine cJ g (cu e) [44] H ?_;rw[eS];cases G:cD (g.tok e) [44]with
   |false=>
    refine cG g T (cu e) [125] H ?_;refine a6 0 ⟨rfl,rfl,us M (by first|omega|(show 1<=g.ts.length;omega)) (cY T H) r.expect (fun F=>absurd t F) (fun _=>?_)⟩;rw[P];cases o:cD (g.tok e) [125]with
    |true=>rw[if_pos rfl,dY o];exact .ok rfl
    |false=>rw[if_neg (fun F=>by cases F),er o,cv,if_neg (by rw[G];decide)];exact .bad dc
   |true=>
    refine cP g (cu e) (by show e<4294967296;have:e<g.ts.length:=H;omega) ?_;have o:cD (g.tok e) [125]=false:=by
     cases o:cD (g.tok e) [125]with
     |false=>rfl
     |true=>exact absurd ((fx o).symm.trans (fx G)) dc
    have Q:e+1<g.ts.length:=T.step H G;rw[if_neg (by rw[o];decide),cv,if_pos G,cv]at P;dsimp only at P
    skip
    have aD:=(B t).1;obtain⟨aX,_⟩:=H5 T aE aD az u;refine cw (eh:=XF j p [xr (l.dm g 1) ((l.word g 1).dm g 1)] [[h,W,U,X,d,q,Y,k]]) (fN:=Uz g (cu (e+1))) (.drop 2 ⟨Z,Z,Z,Z,tv⟩ Z Z Z Z Z Z Z) ?_;refine b5.iter (fun K:Nat×List cV×List (List D)×List (List D)×Nat×Nat=>XF K.2.2.2.2.1 K.2.2.2.2.2 K.2.2.1 K.2.2.2.1) (fun K=>Uz g (cu K.1)) (fun K=>g.ts.length-K.1)
     (fun K=>l.p<K.1/\K.1<g.ts.length/\Iq K.2.1 K.2.2.1 K.2.2.2.1/\0<K.2.2.1.length/\K.2.2.1.length<=K.1/\∃ae,g.ts.length-K.1<=ae/\dK (fD b g) g [125] [] l.p=eY (fD b g) g [125] ae K.2.1 K.1) ?_ (e+1,_,_,_,j,p) ⟨by show l.p<e+1;omega,Q,M,Nat.zero_lt_one,by show 1<=e+1;omega,f0,by show g.ts.length-(e+1)<=f0;omega,P⟩
    rintro⟨i,acc,xs,ks,j,p⟩ ⟨bc,aY,bg,aU,aS,ae,aO,bb⟩;have bq:l.p<i:=bc;have ay:i<g.ts.length:=aY;have aA:Iq acc xs ks:=bg;have Xf:0<xs.length:=aU;have br:xs.length<=i:=aS;have aa:g.ts.length-i<=ae:=aO;have L:dK (fD b g) g [125] [] l.p=eY (fD b g) g [125] ae acc i:=bb;clear bc aY bg aU aS aO bb M P ai u E R n J N H r ag ar;obtain⟨ae,rfl⟩:∃aQ,ae=aQ+1:=⟨ae-1,om⟩;rw[eY]at L;obtain⟨aR,aP⟩:=aA.len;have bs:((ct cV.n acc).map cV.pc).length=acc.length:=by rw[Yl,eK]
    refine dT g T (cu i) 1 ay ?_;refine rY _ xs ((ct cV.n acc).map cV.n) (by rw[List.map_map];rfl) aA.pc om j _ (fun aK=>?_);refine hP ((ct cV.n acc).map cV.n) _ aK _ (by rw[Yl,eK];omega) ?_;rw[aA.mem];obtain⟨am,aq⟩:∃am,am=decide ((cu i).dm g 1∈acc.map cV.n):=⟨_,rfl⟩;rw[<-aq];have I:=fv T (x:=cu i) (k:=1) dc ay;have aj:(if am then((cu i).word g 1).fail (g.tok i).off 5 else(cu i).word g 1).p<g.ts.length:=by
     split
     ·rw[qY];exact I
     ·exact I
    obtain⟨S,O⟩:∃S,S=(if am then((cu i).word g 1).fail (g.tok i).off 5 else(cu i).word g 1):=⟨_,rfl⟩;rw[<-O]at aj;apply eg (ι:=Unit) (T:=fun _=>T9 j p xs ks ((cu i).dm g 1) (nb ((ct cV.n acc).map cV.n) ((cu i).dm g 1))) (S:=fun _=>mj g (cu i) S) (I:=fun _=>True)
    ·intro al;apply aZ<;>intro J
     ·repeat refine e4 ?_
      refine jm g _ (g.tok i).off 5 ?_;refine cw (eh:=T9 j p xs ks ((cu i).dm g 1) (nb ((ct cV.n acc).map cV.n) ((cu i).dm g 1))) (fN:=mj g (cu i) S) (.same ⟨Z,Z,Z,Z,Z,Z,Z,tv⟩ ?_) (al () trivial);rw[O,if_pos J];rfl
     ·repeat refine e4 ?_
      refine cw (eh:=T9 j p xs ks ((cu i).dm g 1) (nb ((ct cV.n acc).map cV.n) ((cu i).dm g 1))) (fN:=mj g (cu i) S) (.same ⟨Z,Z,Z,Z,Z,Z,Z,tv⟩ ?_) (al () trivial);rw[O,J];rfl
    ·intro _ _;have I:=fv T (k:=1) dc aj;have ah:=cY T (s:=[61,62]) I;refine dT g T _ 1 aj ?_;refine cG g T _ [61,62] I ?_;have aD:=(B t).1;have av:(cu i).ge lo:=.yd om;have af:S.ge lo:=by
      rw[O];split
      ·exact av.word.fail _ _ dc
      ·exact av.word
     refine aW.call _ ah af.word.expect _ _ (fun h W U X d q Y k an H r E R=>?_);have n:eO (fD b g acc i) an (fun K=>∃m,K=acc++[⟨(cu i).dm g 1,S.dm g 1,eM,false,[m]⟩]/\hY m [h,W,U,X,d,q,Y,k]):=by
      rw[Lo];have aa:=mV (R:=g) aq;rw[<-O]at aa;refine eO.bind aa ((RS.stay.word.trans .expect).trans E) (fun s bk aV aL=>?_);have aB:=eO.name g bk;rw[<-aV]at aB;refine eO.bind aB (RS.stay.expect.trans E) (fun v bp Q aN=>?_);exact eO.map (eO.val Q af.word E R) (fun m F=>⟨m,by rw[aL,aN],F⟩)
     apply aZ<;>intro J
     ·repeat refine e4 ?_
      have ap:an.e≠0:=fun z=>by rw[z]at J;cases J
      repeat refine b1 ?_
      refine a6 0 ⟨Z,Z,.cC,.cC,an,H,r,(fun F=>absurd t F),⟨_,.nil⟩,⟨_,.nil⟩,Yu _,fun _=>?_,Z⟩;rw[L];cases x:fD b g acc i with
      |bad bi z=>rw[x]at n;exact n
      |ok K i=>rw[x]at n;exact absurd (by rw[n.1];rfl) ap
     ·repeat refine e4 ?_
      have N:an.e=0:=iZ J;obtain⟨m,e,u,aT,ai⟩:∃m e,fD b g acc i=.ok (acc++[⟨(cu i).dm g 1,S.dm g 1,eM,false,[m]⟩]) e/\an=cu e/\hY m [h,W,U,X,d,q,Y,k]:=by
       cases x:fD b g acc i with
       |bad bi z=>rw[x]at n;exact absurd (n.2.2.symm.trans N) n.1
       |ok K i=>rw[x]at n;obtain⟨au,m,rfl,aM⟩:=n;exact⟨m,i,rfl,au,aM⟩
      have be:(cu i).dm g 1 ∉ acc.map cV.n:=fun bm=>by
       rw[decide_eq_true bm]at aq;rw[aq,if_pos rfl]at O;have aw:S.e≠0:=by
        rw[O,RS.fail];split
        ·exact Nat.succ_ne_zero _
        ·assumption
       have au:=((RS.stay.word.trans .expect).trans E) aw;rw[au]at N;exact aw N
      have M:=aA.ins (v:=S.dm g 1) be ai;rw[u]at L;dsimp only at L;subst aT;have aH:=Fa ((ct cV.n acc).map cV.n) ((cu i).dm g 1);rw[Yl,eK]at aH;obtain⟨ao,bh⟩:∃ao,ao=nb ((ct cV.n acc).map cV.n) ((cu i).dm g 1):=⟨_,rfl⟩;rw[<-bh]at M aH⊢;obtain⟨aR,aP⟩:=aA.len;have Qm:ao<=xs.length:=om;have Xe:ao<=ks.length:=om;have Xg:0<ks.length:=om;have aJ:ao=xs.length->ao=ks.length:=fun F=>om;clear n aq O aj I ah af E R;obtain⟨c,ab⟩:∃c,c=xs.take ao++xr ((cu i).dm g 1) (S.dm g 1)::xs.drop ao:=⟨_,rfl⟩;obtain⟨f,ac⟩:∃f,f=ks.take ao++[h,W,U,X,d,q,Y,k]::ks.drop ao:=⟨_,rfl⟩;rw[<-ab,<-ac]at M;have bn:c.length=xs.length+1:=by rw[ab];simp only[Yo,Yq,Yw,Yv];omega
      have bo:f.length=ks.length+1:=by rw[ac];simp only[Yo,Yq,Yw,Yv];omega
      obtain⟨_,aX⟩:=H5 T aE (p:=i) om ay u;apply eg (ι:=Nat×Nat) (T:=fun am=>P7 am.1 am.2 c f) (S:=fun _=>mj g (cu i) (cu e)) (I:=fun _=>True)
      ·intro al;by_cases aF:ao=0
       ·repeat first
         |refine bZ rfl ?_
         |refine zG ?_
         |intro am
         |refine rk ?_
        refine b5.freeze 6 [(1,.bp 0 0),(4,.bp 1 0),(5,.ms 6 8 0 c.length c.length),(6,.ms 9 8 0 f.length f.length),(9,.bp 2 0)] (es:=8) (els:=c.map fun z=>z.map V.d) (l:=c) (congrArg (fun A=>some (cU.row 8 A)) (by rw[ab];exact(uq _ _ _ _ aF))) (ed _) ⟨rfl,rfl,h9 vI,h9 vI,rfl,tv⟩ ⟨tv,tv,fun _=>⟨rfl,Yn (Ym _)⟩,(fun F=>by cases F),tv,tv⟩ (fun j=>?_);refine b5.freeze 9 [(1,.bp 0 0),(4,.bp 1 0),(5,.d (.ps j 0 8 c.length c)),(6,.ms 9 8 0 f.length f.length),(9,.bp 2 0)] (es:=8) (els:=f.map fun z=>z.map V.d) (l:=f) (congrArg (fun A=>some (cU.row 8 A)) (by rw[ac];exact(uq _ _ _ _ aF))) (ed _) ⟨rfl,rfl,jo rfl,rfl,rfl,tv⟩ ⟨tv,tv,tv,fun _=>⟨rfl,Yn (Ym _)⟩,tv,tv⟩ (fun p=>?_);exact cw (eh:=P7 j p c f) (fN:=mj g (cu i) (cu e)) (.drop 3 ⟨Z,Z,Z,jo Z,Z,tv⟩ Z Z Z Z Z Z Z) (al (j,p) trivial)
       ·by_cases aC:ao=xs.length
        ·repeat first
          |refine bZ rfl ?_
          |refine zG ?_
          |intro am
          |refine rk ?_
         refine b5.freeze 6 [(1,.bp 0 0),(4,.bp 1 0),(5,.ms 6 8 0 c.length c.length),(6,.ms 9 8 0 f.length f.length),(9,.bp 2 0)] (es:=8) (els:=c.map fun z=>z.map V.d) (l:=c) (congrArg (fun A=>some (cU.row 8 A)) (by rw[ab];exact(ur _ _ _ _ aC))) (ed _) ⟨rfl,rfl,h9 vI,h9 vI,rfl,tv⟩ ⟨tv,tv,fun _=>⟨rfl,Yn (Ym _)⟩,(fun F=>by cases F),tv,tv⟩ (fun j=>?_);refine b5.freeze 9 [(1,.bp 0 0),(4,.bp 1 0),(5,.d (.ps j 0 8 c.length c)),(6,.ms 9 8 0 f.length f.length),(9,.bp 2 0)] (es:=8) (els:=f.map fun z=>z.map V.d) (l:=f) (congrArg (fun A=>some (cU.row 8 A)) (by rw[ac];exact(ur _ _ _ _ (aJ aC)))) (ed _) ⟨rfl,rfl,jo rfl,rfl,rfl,tv⟩ ⟨tv,tv,tv,fun _=>⟨rfl,Yn (Ym _)⟩,tv,tv⟩ (fun p=>?_);exact cw (eh:=P7 j p c f) (fN:=mj g (cu i) (cu e)) (.drop 3 ⟨Z,Z,Z,jo Z,Z,tv⟩ Z Z Z Z Z Z Z) (al (j,p) trivial)
        ·repeat first
          |refine bZ rfl ?_
          |refine zG ?_
          |intro am
          |refine rk ?_
         refine b5.freeze 7 [(1,.bp 0 0),(4,.bp 1 0),(5,.ms 7 8 0 c.length c.length),(6,.ms 11 8 0 f.length f.length),(9,.bp 2 0)] (es:=8) (els:=c.map fun z=>z.map V.d) (l:=c) (congrArg (fun A=>some (cU.row 8 A)) (by rw[ab];exact(uo _ _ _ _))) (ed _) ⟨rfl,rfl,h9 vI,h9 vI,rfl,tv⟩ ⟨tv,tv,fun _=>⟨rfl,Yn (Ym _)⟩,(fun F=>by cases F),tv,tv⟩ (fun j=>?_);refine b5.freeze 11 [(1,.bp 0 0),(4,.bp 1 0),(5,.d (.ps j 0 8 c.length c)),(6,.ms 11 8 0 f.length f.length),(9,.bp 2 0)] (es:=8) (els:=f.map fun z=>z.map V.d) (l:=f) (congrArg (fun A=>some (cU.row 8 A)) (by rw[ac];exact(uo _ _ _ _))) (ed _) ⟨rfl,rfl,jo rfl,rfl,rfl,tv⟩ ⟨tv,tv,tv,fun _=>⟨rfl,Yn (Ym _)⟩,tv,tv⟩ (fun p=>?_);exact cw (eh:=P7 j p c f) (fN:=mj g (cu i) (cu e)) (.drop 3 ⟨Z,Z,Z,jo Z,Z,tv⟩ Z Z Z Z Z Z Z) (al (j,p) trivial)
      ·rintro⟨j,p⟩ _;refine cJ g (cu e) [44] H ?_;rw[eS];cases G:cD (g.tok e) [44]with
       |false=>
        refine cG g T (cu e) [125] H ?_;refine a6 0 ⟨rfl,rfl,us M (by first|omega|(show 1<=g.ts.length;omega)) (cY T H) r.expect (fun F=>absurd t F) (fun _=>?_)⟩;rw[L];cases o:cD (g.tok e) [125]with
        |true=>rw[if_pos rfl,dY o];exact .ok rfl
        |false=>rw[if_neg (fun F=>by cases F),er o,cv,if_neg (by rw[G];decide)];exact .bad dc
       |true=>
        refine cP g (cu e) (by show e<4294967296;have:e<g.ts.length:=H;omega) ?_;have o:cD (g.tok e) [125]=false:=by
         cases o:cD (g.tok e) [125]with
         |false=>rfl
         |true=>exact absurd ((fx o).symm.trans (fx G)) dc
        have Q:e+1<g.ts.length:=T.step H G;rw[if_neg (by rw[o];decide),cv,if_pos G,cv]at L;dsimp only at L
        skip
        exact⟨(e+1,_,c,f,j,p),⟨by show l.p<e+1;omega,Q,M,by show 0<c.length;omega,by show c.length<=e+1;omega,ae,by show g.ts.length-(e+1)<=ae;omega,L⟩,by show g.ts.length-(e+1)<g.ts.length-i;omega,.drop 2 ⟨rfl,rfl,rfl,rfl,tv⟩ rfl rfl rfl rfl rfl rfl rfl,rfl,rfl⟩
def Nk(f:Nat->PR Ty)(i:Rd)(c:List cV)(p:Nat):PR (List UInt8×Ty):=(dS i c p).bind fun l j=>(cv i [[58]] j).bind fun _ e=>(f e).map fun m=>(l,m)
theorem Lp(f:Nat->PR Ty)(j:Nat->PR Ex)(l:Rd)(c:List cV)(p:Nat):ee f j l c p=(Nk f l c p).bind fun e i=>if cD (l.tok i) [61]then(j (i+1)).map fun n=>c++[⟨e.1,[],e.2,true,[n]⟩]else .ok (c++[⟨e.1,[],e.2,false,[]⟩]) i:=by
 unfold ee Nk PR.bind;cases dS l c p with
 |bad o t=>rfl
 |ok s i=>
  dsimp only;cases cv l [[58]] i with
  |bad o t=>rfl
  |ok v m=>
   dsimp only;cases f m<;>rfl
def R4(p:cV)(o:List D):Prop:=∃m n c e l i j f,o=[m,n,c,e,l,i,j,f]/\(p.oa=false/\p.val=[]∨p.oa=true/\∃s,p.val=[s]/\hY s o)
inductive zd:List cV->List (List D)->Prop
 |nil:zd [] []
 |cons {p:cV} {d:List D} {l:List cV} {ds:List (List D)} (h:R4 p d) (hl:zd l ds):zd (p::l) (d::ds)
variable{d:List (List D)}
theorem zd.len{l:List cV}(e:zd l d):d.length=l.length:=by
 induction e with
 |nil=>rfl
 |cons _ _ c=>simp[c]
variable{w:List D}
theorem zd.ins{l:List cV}{p:cV}(j:zd l d)(c:R4 p w)(t:Nat):zd (l.take t++p::l.drop t) (d.take t++w::d.drop t):=by
 induction j generalizing t with
 |nil=>cases t<;>exact .cons c .nil
 |cons e i f=>
  cases t with
  |zero=>exact .cons c (.cons e i)
  |succ t=>exact .cons e (f t)
theorem zd.get{l:List cV}(m:zd l d){i:Nat}(c:i<l.length):∃j,d[i]?=some j/\R4 l[i] j:=by
 induction m generalizing i with
 |nil=>simp at c
 |cons f n e=>
  cases i with
  |zero=>exact⟨_,rfl,f⟩
  |succ i=>simpa using e (by simpa using c)
def CF(e:List (cV×List D)):List (List D):=e.filterMap fun c=>if c.1.oa then some c.2 else none
theorem Lq{l:List cV}(x:zd l d):hh (l.flatMap cV.val) (CF (l.zip d)):=by
 induction x with
 |nil=>exact .nil
 |cons c n i=>
  rename_i H I l d;obtain⟨F,p,s,t,E,v,C,o,m,c⟩:=c;rcases c with⟨e,f⟩|⟨e,G,f,j⟩
  ·rw[List.flatMap_cons,f,YA,CF,Yy,e];exact i
  ·rw[List.flatMap_cons,f,YA,CF,Yy,e];exact .cons j i
variable{A u:Nat}
theorem H8{l:List cV}(e:u<l.length)(c:d[u]?=some w):CF ((l.zip d).take (u+1))=CF ((l.zip d).take u)++(if l[u].oa then [w]else []):=by
 have f:(l.zip d)[u]?=some (l[u],w):=by rw[List.getElem?_zip_eq_some];exact⟨List.getElem?_eq_getElem e,c⟩
 rw[List.take_add_one,f,CF,List.filterMap_append];congr 1;show List.filterMap _ [(l[u],w)]=_;rw[Yy];cases l[u].oa<;>rfl
theorem zH(c:List (cV×List D)):(CF c).length<=c.length:=List.length_filterMap_le _ _
structure FH (acc:List cV) (xs ks:List (List D)):Prop where
 pc:l2 ((ct cV.n acc).map cV.pc) xs
 Ua:zd (ct cV.n acc) ks
 nd:(acc.map cV.n).Nodup
theorem FH.nil:FH [] [] []:=⟨.nil,.nil,by simp⟩
theorem FH.len{c:List cV}{xs i:List (List D)}(j:FH c xs i):xs.length=c.length/\i.length=c.length:=by
 have f:=j.pc.len;have e:=j.Ua.len;rw[Yl,eK]at f;rw[eK]at e;exact⟨f,e⟩
variable{h:List cV}
theorem FH.mem{xs e:List (List D)}(f:FH h xs e)(c:List UInt8):decide (((ct cV.n h).map cV.n)[nb ((ct cV.n h).map cV.n) c]?=some c)=decide (c∈h.map cV.n):=by
 rw[Fc (gF f.nd)];exact decide_eq_decide.2 (((dC h).map cV.n).mem_iff)
def Kn(i:List UInt8)(j e n c f:D)(o:Bool):List D:=[.str i,.str [],j,e,n,c,f,.bool o]
def Fl(p:cV)(f:List UInt8)(e:List D)(o:Bool)(c:List D):Prop:=p.n=f/\p.v=[]/\p.oa=o/\hU p.ty e/\R4 p c
theorem FH.ins{acc:List cV}{xs ks:List (List D)}{e:List UInt8}{p:cV}{s j n i f:D}{o:Bool}{c:List D}(F:FH acc xs ks)(E:e ∉ acc.map cV.n)(t:Fl p e [s,j,n,i,f] o c):
  FH (acc++[p]) (xs.take (nb ((ct cV.n acc).map cV.n) e)++Kn e s j n i f o::xs.drop (nb ((ct cV.n acc).map cV.n) e)) (ks.take (nb ((ct cV.n acc).map cV.n) e)++c::ks.drop (nb ((ct cV.n acc).map cV.n) e)):=by
 obtain⟨rfl,G,x,C,I⟩:=t;have m:ct cV.n (acc++[p])=(ct cV.n acc).take (nb ((ct cV.n acc).map cV.n) p.n)++p::(ct cV.n acc).drop (nb ((ct cV.n acc).map cV.n) p.n):=by
  rw[tj,Fb]
 refine⟨?_,?_,?_⟩
 ·rw[m,Yx,List.map_cons,List.map_take,List.map_drop];have v:Kn p.n s j n i f o=Cw p.pc [s,j,n,i,f]:=by
   rw[<-x];show _=[D.str p.n,.str p.v,s,j,n,i,f,.bool p.oa];rw[G];rfl
  rw[v];exact F.pc.ins C _
 ·rw[m];exact F.Ua.ins I _
 ·rw[Yx,List.nodup_append];refine⟨F.nd,by simp,?_⟩;intro i H K l J;simp only[List.map_cons,List.map_nil,List.mem_singleton]at l;subst J;subst l;exact E H
variable{a:Nat->PR Ty}
theorem H9(F:g.Wf){lo:Nat}(m:∀p H f,lo<=p->p<g.ts.length->a p=.ok H f->p<f/\f<g.ts.length)(C:iD g lo b){o:List cV}{p f:Nat}(J:lo<=p)(l:p<g.ts.length)(c:ee a b g h p=.ok o f):p<f/\f<g.ts.length:=by
 rw[ee]at c;cases i:dS g h p with
 |bad G I=>rw[i]at c;cases c
 |ok s t=>
  rw[i]at c;dsimp only at c;obtain⟨f1,f2⟩:=ox F l i;cases e:cv g [[58]] t with
  |bad G I=>rw[e]at c;cases c
  |ok N E=>
   rw[e]at c;dsimp only at c;obtain⟨M,D⟩:=ny F f2 e;cases j:a E with
   |bad G I=>rw[j]at c;cases c
   |ok H K=>
    rw[j]at c;dsimp only at c;obtain⟨t1,t2⟩:=m _ _ _ om D j;split at c
    ·rename_i v;obtain⟨O,x,rfl⟩:=fj c;obtain⟨L,n⟩:=C _ _ _ om (F.step t2 v) x;exact⟨om,n⟩
    ·cases c;exact⟨om,t2⟩
variable{B q:RS} {k:List UInt8}
theorem Ia{F lo:Nat}{C E n x f:D}(p:eO (dS g h F) q (fun i=>k=i))(v:q.ge lo)(e:(q.expect g [58]).stay B)(c:(q.expect g [58]).e=0->eO (a (q.expect g [58]).p) B (fun G=>hU G [C,E,n,x,f])):
  eO (Nk a g h F) B (fun m=>m.1=k/\hU m.2 [C,E,n,x,f]):=by
 rw[Nk];refine eO.bind p (RS.stay.expect.trans e) (fun i t l s=>?_);have o:=kc g t [58];rw[<-l]at o;refine eO.bind o e (fun J H j _=>?_);rw[j]at c;exact eO.map (c Z) (fun G I=>⟨s.symm,I⟩)
theorem Bw{G I n F f E m o p C s x j:D}(J:eO (Nk a g h u) q (fun c=>c.1=k/\hU c.2 [G,I,n,F,f]))(t:q.is g [61]=false):
  eO (ee a b g h u) q (fun K=>∃H,K=h++[H]/\Fl H k [G,I,n,F,f] false [E,m,o,p,C,s,x,j]):=by
 rw[Lp];refine eO.bind J (fun _=>Z) (fun c l e i=>?_);subst e;have v:cD (g.tok l) [61]=false:=cM t rfl;rw[if_neg (by rw[v];decide)];exact .ok ⟨_,Z,i.1,Z,Z,i.2,_,_,_,_,_,_,_,_,Z,.inl ⟨Z,Z⟩⟩
theorem Bx{L N n J f C m o p x s v l:D}(P:eO (Nk a g h u) q (fun i=>i.1=k/\hU i.2 [L,N,n,J,f]))(H:q.is g [61]=true)(K:q.next.stay B)(e:q.next.e=0->eO (b q.next.p) B (fun Q=>hY Q [C,m,o,p,x,s,v,l])):
  eO (ee a b g h u) B (fun R=>∃M,R=h++[M]/\Fl M k [L,N,n,J,f] true [C,m,o,p,x,s,v,l]):=by
 rw[Lp];obtain⟨F,c⟩:=dL H;refine eO.bind P (fun E=>absurd F E) (fun i G j t=>?_);subst j;have c:cD (g.tok G) [61]=true:=c;rw[if_pos c];exact eO.map (e Z) (fun O I=>⟨_,Z,t.1,Z,Z,t.2,_,_,_,_,_,_,_,_,Z,.inr ⟨Z,O,Z,I⟩⟩)
def SM:Nat->Bool:=fun c=>Yr c 70||Yr c 82||Yr c 108||Yr c 1000008||Yr c 1000014||Yr c 1000018
def VB(c K:V)(e:Nat):Tm:=[(1,.bp 0 0),(4,.bp 1 0),(5,c),(6,K),(9,.bp e 0)]
def VC(c K:V):Tm:=[(1,.bp 0 0),(4,.bp 1 0),(5,c),(6,K)]
def Xh(c K:V)(e:Nat)(f:List UInt8)(t:Nat):Tm:=[(1,.bp 0 0),(4,.bp 1 0),(5,c),(6,K),(7,cE f),(9,.bp e 0),(10,b6 t)]
def UA(f K:V)(i e c t:Nat):Tm:=[(1,.bp 0 0),(4,.bp 1 0),(5,f),(6,K),(9,.bp i 0),(10,b6 t),(12,.bp e 0),(13,.bp c 0)]
def Wg(f i:Nat)(xs e:List (List D))(c j:Nat):Tm:=[(4,.bp 1 0),(5,.d (.ps f 0 8 xs.length xs)),(6,.d (.ps i 0 8 e.length e)),(9,.bp 2 0),(14,.ms 3 8 0 c c),(15,b6 j)]
def UB(m:Rd)(e:List UInt8)(i l n j f:D)(c:(D×D×D×D×D×D×D×D)×Bool×RS):VS:=[.box (H6 m c.2.2),.box [cE e,cE [],.d i,.d l,.d n,.d j,.d f,b0 c.2.1],.box [.d c.1.1,.d c.1.2.1,.d c.1.2.2.1,.d c.1.2.2.2.1,.d c.1.2.2.2.2.1,.d c.1.2.2.2.2.2.1,.d c.1.2.2.2.2.2.2.1,.d c.1.2.2.2.2.2.2.2]]
theorem FH.get{c:List cV}{xs m:List (List D)}(G:FH c xs m){i:Nat}(e:i<(ct cV.n c).length):∃Q I L O N H J F o p s E t C n,xs[i]?=some [.str Q,.str I,L,O,N,H,J,.bool (ct cV.n c)[i].oa]/\m[i]?=some [F,o,p,s,E,t,C,n]:=by
 have j:=G.pc;have f:=G.Ua;revert j f e;generalize ct cV.n c=T;intro e j f;obtain⟨S,v,x⟩:=j.get (i:=i) (by rw[Yl];exact e);obtain⟨K,R,tn,M,P,rfl⟩:=x.eG;obtain⟨d2,l,F,o,p,s,E,t,C,n,rfl,_⟩:=f.get e;simp only[List.getElem_map]at v;exact⟨_,_,_,_,_,_,_,_,_,_,_,_,_,_,_,v,l⟩
theorem yN{e l:List cV}{s:List UInt8}(j:ee a b g e u=.ok l A)(f:eO (dS g e u) q (fun i=>s=i)):s ∉ e.map cV.n:=by
 rw[ee]at j;cases c:dS g e u with
 |bad o p=>rw[c]at j;cases j
 |ok i n=>
  rw[c]at f;obtain⟨_,rfl⟩:=f;rw[dS]at c;split at c
  ·cases c
  ·split at c
   ·cases c
   ·rename_i m;cases c;exact m
theorem pg{c:Nat->Nat}{l:List (List V)}(f:l=d.map fun e=>e.map V.d):some (cU.row 8 l)=some (eC c (.row 8 (d.map fun e=>e.map V.d))):=by
 rw[f];exact congrArg some (mM c 8 d).symm
def VD(fn:Nat->PR (List cV))(m:Rd)(lo:Nat)(l:RS)(n:cZ)(i:VS):Prop:=
 (∃(c:D) (f:RS),i=[]/\f.p<m.ts.length/\f.ge lo/\l.stay f/\f.e≠0/\(∃j,eV j c)/\(l.e=0->eO (fn l.p) f (fun _=>False))/\n=.ret (.dN [.d c,.d .cC,f.v m]))∨
 (∃(c:D) (e:List (List D)) (f:RS),i=[.row 8 (e.map fun o=>o.map V.d)]/\e.length<=m.ts.length/\f.p<m.ts.length/\f.ge lo/\l.stay f/\(∃j,eV j c)/\(∃j,hh j e)/\(l.e=0->eO (fn l.p) f (fun j=>eV ((ct cV.n j).map cV.pc) c/\hh ((ct cV.n j).flatMap cV.val) e))/\n=.ret (.dN [.d c,.ms 0 8 0 e.length e.length,f.v m]))
variable{r:cZ->VS->Prop}
theorem By{σ:VS}{j n:Nat}{d0:D}{ks:List (List D)}(e:nth σ j=some (.row 8 (ks.map fun c=>c.map V.d))) 
  (f:r (.ret (.dN [.d d0,.ms 0 8 0 n n,q.v g])) [.row 8 (ks.map fun c=>c.map V.d)]):cR 0 (.ret (.dN [.d d0,.ms j 8 0 n n,q.v g])) σ r:=
 cR.pick [j] (r0:=.ret (.dN [.d d0,.ms 0 8 0 n n,q.v g])) (fN:=[.row 8 (ks.map fun c=>c.map V.d)]) rfl rfl rfl sm ⟨by rw[e];exact congrArg some (mM _ 8 ks).symm,fs _ 8 _,tv⟩ (cR.now rfl f)
theorem Ub{σ:VS}{i j n m:Nat}{xs ks:List (List D)}{x:RS}(e:i≠j)(F:nth σ i=some (.row 8 (xs.map fun f=>f.map V.d)))(C:nth σ j=some (.row 8 (ks.map fun f=>f.map V.d)))(p:n=xs.length) 
  (E:∀c,r (.ret (.dN [.d (.ps c 0 8 n xs),.ms 0 8 0 m m,x.v g])) [.row 8 (ks.map fun f=>f.map V.d)]):cR 0 (.ret (.dN [.ms i 8 0 n n,.ms j 8 0 m m,x.v g])) σ r:=by
 refine cR.freeze i (es:=8) (l:=xs) F (ed xs) (by simp[xS,pi,pN,RS.v,b6,p];exact fun G=>absurd G.symm e) (fun c=>?_);have v:sU i c xs (.ret (.dN [.ms i 8 0 n n,.ms j 8 0 m m,x.v g]))=.ret (.dN [.d (.ps c 0 8 n xs),.ms j 8 0 m m,x.v g]):=by
  show cZ.ret (.dN [iW i c xs (.ms i 8 0 n n),iW i c xs (.ms j 8 0 m m),iW i c xs (x.v g)])=_;have s:iW i c xs (x.v g)=x.v g:=by simp[RS.v,iW,wx,b6]
  have o:iW i c xs (.ms j 8 0 m m)=.ms j 8 0 m m:=by rw[iW,n5 (fun t=>e t.symm)]
  rw[s,o,iW,gE];show cZ.ret (.dN [.d (.ps c (0*8) 8 n ((xs.drop 0).take n)),_,_])=_;rw[gD _ _ p,Nat.zero_mul]
 rw[v];have l:nth (σ.set i .gone) j=some (.row 8 (ks.map fun f=>f.map V.d)):=by
  rw[cz,List.getElem?_set_ne e,<-cz,C]
 exact By l (E c)
theorem Fm{fn:Nat->PR (List cV)}{lo:Nat}{acc:List cV}{xs ks:List (List D)}(c:FH acc xs ks)(e:(CF ((ct cV.n acc).zip ks)).length<=g.ts.length)(l:B.p<g.ts.length)(n:B.ge lo)(f:q.stay B)(m:q.e=0->eO (fn q.p) B (fun o=>o=acc)):
  VD fn g lo q (.ret (.dN [.d (.ps u 0 8 A xs),.ms 0 8 0 (CF ((ct cV.n acc).zip ks)).length (CF ((ct cV.n acc).zip ks)).length,B.v g])) [.row 8 ((CF ((ct cV.n acc).zip ks)).map fun p=>p.map V.d)]:=
 .inr ⟨_,_,B,rfl,e,l,n,f,⟨_,.ps c.pc⟩,⟨_,Lq c.Ua⟩,fun i=>(m i).imp fun o j=>by subst j;exact⟨.ps c.pc,Lq c.Ua⟩,rfl⟩
theorem Ib(ap:g.Wf){lo:Nat}(br:RZ du a g lo)(bx:kW dP one b g lo)(bc:∀p aq E,lo<=p->p<g.ts.length->a p=.ok aq E->p<E/\E<g.ts.length)(aY:iD g lo b)(p:Nat)(aI:lo<=p)(aT:p<g.ts.length):
  b3 C cn ji [(cu p).v g] [] (VD (dK (ee a b g) g [41] []) g lo (cu p)):=by
 have bG:=ap.len;refine cy SM (fun _=>Z) ?_;refine cJ g (cu p) [41] aT ?_;rw[eS];cases aR:cD (g.tok p) [41]with
 |true=>
  refine cP g (cu p) (by show p<4294967296;omega) ?_;refine Ub (i:=2) (j:=3) (n:=0) (m:=0) (xs:=[]) (ks:=[]) (x:=(cu p).next) dc Z Z Z (fun n=>?_);refine Fm (acc:=[]) (xs:=[]) (ks:=[]) FH.nil (Yu _) (ap.step aT aR) (RS.ge.next (.yd aI)) (fun ac=>absurd Z ac) (fun _=>?_);show eO (dK (ee a b g) g [41] [] p) _ _;rw[dK,if_pos aR];exact .ok Z
 |false=>
  have m:dK (ee a b g) g [41] [] p=eY (ee a b g) g [41] g.ts.length [] p:=by rw[dK,if_neg (by rw[aR];decide)]
  obtain⟨f0,bB⟩:∃y,g.ts.length=y+1:=⟨g.ts.length-1,om⟩;rw[bB,eY]at m;refine b5.loop ?_;refine dT g ap (cu p) 1 aT ?_;refine oe 2 Z (fun bi=>?_);refine hP [] _ bi 0 dc ?_;refine ft ?_;have B:=mV (R:=g) (acc:=[]) (q:=p) (b:=false) sm;rw[if_neg (fun ac=>by cases ac)]at B;have A:=fv ap (x:=cu p) (k:=1) dc aT;have M:((cu p).word g 1).ge lo:=RS.ge.word (.yd aI);obtain⟨az,ao⟩:∃az,az=(cu p).word g 1:=⟨_,rfl⟩;obtain⟨s,bl⟩:∃s,s=(cu p).dm g 1:=⟨_,rfl⟩;rw[<-ao]at B A M⊢;rw[<-bl]at B⊢;have ax:=cY ap (s:=[58]) A;refine cG g ap _ [58] A ?_;refine br _ ax M.expect _ _ (fun al au av G y af ad ak ah q=>?_);have aj:=Ia B M ah q;repeat refine b1 ?_
  refine cJ g af [61] ad ?_;apply eg (ι:=(D×D×D×D×D×D×D×D)×Bool×RS) (T:=fun _=>UA (.ms 2 8 0 0 0) (.ms 3 8 0 0 0) 4 5 6 0) (S:=fun k=>[.box (H6 g (cu p)),.box tx,.row 8 [],.row 8 []]++UB g s al au av G y k) (I:=fun k=>k.2.2.p<g.ts.length/\k.2.2.ge lo/\eO (ee a b g [] p) k.2.2 (fun r=>∃p,r=[]++[p]/\Fl p s [al,au,av,G,y] k.2.1 [k.1.1,k.1.2.1,k.1.2.2.1,k.1.2.2.2.1,k.1.2.2.2.2.1,k.1.2.2.2.2.2.1,k.1.2.2.2.2.2.2.1,k.1.2.2.2.2.2.2.2]))
  ·intro aa;cases ae:af.is g [61]with
   |true=>
    refine cP g af om ?_;have bp:=ap.step ad (dL ae).2;refine bx.call _ bp ak.next _ _ (fun U Q O R T X S W aV aL aE aF ar=>?_)
    repeat refine b1 ?_
    exact cw (eh:=UA (.ms 2 8 0 0 0) (.ms 3 8 0 0 0) 4 5 6 0) (fN:=[.box (H6 g (cu p)),.box tx,.row 8 [],.row 8 []]++UB g s al au av G y ((U,Q,O,R,T,X,S,W),true,aV)) (.same ⟨Z,Z,Z,Z,Z,Z,Z,Z,tv⟩ Z) (aa ((U,Q,O,R,T,X,S,W),true,aV) ⟨aL,aE,Bx aj ae aF ar⟩)
   |false=>
    exact cw (eh:=UA (.ms 2 8 0 0 0) (.ms 3 8 0 0 0) 4 5 6 0) (fN:=[.box (H6 g (cu p)),.box tx,.row 8 [],.row 8 []]++UB g s al au av G y ((.int .i64 0,.str [],.str [],.str [],.int .i64 0,.cC,.cC,.cC),false,af)) (.same ⟨Z,Z,Z,Z,Z,Z,Z,Z,tv⟩ Z) (aa ((.int .i64 0,.str [],.str [],.str [],.int .i64 0,.cC,.cC,.cC),false,af) ⟨ad,ak,Bw aj ae⟩)
  ·rintro⟨⟨U,Q,O,R,T,X,S,W⟩,aC,ay⟩ ⟨L,d,l⟩;have L:ay.p<g.ts.length:=L;have d:ay.ge lo:=d;have l:eO (ee a b g [] p) ay (fun r=>∃p,r=[]++[p]/\Fl p s [al,au,av,G,y] aC [U,Q,O,R,T,X,S,W]):=l;apply aZ<;>intro ab
   ·repeat refine e4 ?_
    have aw:ay.e≠0:=fun am=>by rw[am]at ab;cases ab
    repeat refine b1 ?_
    refine a6 0 (Or.inl ⟨.cC,ay,Z,L,d,(fun ac=>absurd Z ac),aw,⟨_,.nil⟩,fun _=>?_,Z⟩);show eO (dK (ee a b g) g [41] [] p) ay _;rw[m];cases t:ee a b g [] p with
    |bad aC am=>rw[t]at l;exact l
    |ok G E=>rw[t]at l;exact absurd (by rw[l.1];rfl) aw
   ·repeat refine e4 ?_
    have aK:ay.e=0:=iZ ab;obtain⟨u,f,ag,aP,aG⟩:∃u f,ee a b g [] p=.ok ([]++[u]) f/\ay=cu f/\Fl u s [al,au,av,G,y] aC [U,Q,O,R,T,X,S,W]:=by
     cases t:ee a b g [] p with
     |bad aC am=>rw[t]at l;exact absurd (l.2.2.symm.trans aK) l.1
     |ok r E=>rw[t]at l;obtain⟨bf,u,rfl,bn⟩:=l;exact⟨u,E,rfl,bf,bn⟩
    subst aP;rw[ag]at m;dsimp only at m;have aU:=yN ag B;obtain⟨cf,_⟩:=H9 ap bc aY aI aT ag;have x:FH [u] [Kn s al au av G y aC] [[U,Q,O,R,T,X,S,W]]:=FH.ins (acc:=[]) FH.nil aU aG;repeat first
     |refine bZ rfl ?_
     |intro aD
     |refine zG ?_
     |refine a8 rfl ?_
     |refine a1 rfl ?_
    refine b5.freeze 8 [(1,.bp 0 0),(4,.bp 1 0),(5,.ms 8 8 0 1 1),(6,.ms 10 8 0 1 1),(9,.bp 4 0)] (l:=[Kn s al au av G y aC]) Z Z ⟨Z,Z,Z,Z,Z,tv⟩ ⟨tv,tv,fun _=>⟨Z,Yz _⟩,(fun ac=>by cases ac),tv,tv⟩ (fun n=>?_);refine b5.freeze 10 [(1,.bp 0 0),(4,.bp 1 0),(5,.d (.ps n 0 8 1 [Kn s al au av G y aC])),(6,.ms 10 8 0 1 1),(9,.bp 4 0)] (l:=[[U,Q,O,R,T,X,S,W]]) Z Z ⟨Z,Z,Z,Z,Z,tv⟩ ⟨tv,tv,tv,fun _=>⟨Z,Yz _⟩,tv,tv⟩ (fun v=>?_);obtain⟨i,N⟩:∃i,i=[Kn s al au av G y aC]:=⟨_,rfl⟩;obtain⟨j,w⟩:∃j,j=[[U,Q,O,R,T,X,S,W]]:=⟨_,rfl⟩;obtain⟨acc,ai⟩:∃acc,acc=[u]:=⟨_,rfl⟩;have bm:i.length=1:=by rw[N];rfl
    refine cw (eh:=VB (.d (.ps n 0 8 i.length i)) (.d (.ps v 0 8 j.length j)) 2) (fN:=mj g (cu p) (cu f)) (by rw[N,w];exact .pick 2 [0,1,4] ⟨rfl,rfl,rfl,rfl,rfl,tv⟩ rfl rfl rfl rfl rfl dc ⟨rfl,rfl,rfl,rfl,rfl,rfl,tv⟩) ?_;rw[<-N,<-w,<-ai]at x;refine ft ?_;have m:dK (ee a b g) g [41] [] p=if cD (g.tok f) [41]=true then PR.ok acc (f+1)else match cv g [[44]] f with
     |.bad aC am=>.bad aC am
     |.ok _ bJ=>eY (ee a b g) g [41] f0 acc bJ:=by rw[ai];exact m
    clear l ab aj q ah B ax;refine cJ g (cu f) [44] L ?_;rw[eS];cases h:cD (g.tok f) [44]with
    |false=>
     have an:=x.pc.len;have bz:=x.Ua.len;rw[Yl]at an;refine cw (eh:=Wg n v i j (CF (((ct cV.n acc).zip j).take 0)).length 0) (fN:=mj g (cu p) (cu f)++[.row 8 ((CF (((ct cV.n acc).zip j).take 0)).map fun bk=>bk.map V.d)]) (.same ⟨Z,Z,Z,Z,Z,Z,tv⟩ Z) ?_;refine b5.iter (fun F:Nat=>Wg n v i j (CF (((ct cV.n acc).zip j).take F)).length F) (fun F=>mj g (cu p) (cu f)++[.row 8 ((CF (((ct cV.n acc).zip j).take F)).map fun bk=>bk.map V.d)]) (fun F=>i.length-F) (fun F=>F<=i.length) ?_ 0 (Yu _);intro F bY;apply aZ<;>intro aJ
     ·have Y:F<i.length:=fq aJ;have aA:F<(ct cV.n acc).length:=an▸Y;obtain⟨cb,cc,bV,ce,bM,bU,bX,bE,bI,bW,cg,ca,bR,bP,bO,bh,t⟩:=x.get aA;have H:=H8 aA t;refine bZ Z ?_;refine b7 _ (by rw[cz];exact bh) ?_;apply aZ<;>intro z
      ·have z:(ct cV.n acc)[F].oa=true:=z;rw[z,if_pos rfl]at H;refine bZ Z ?_;refine b7 _ (by rw[cz];exact t) ?_;have P:=zH (((ct cV.n acc).zip j).take F);rw[Yq,Ys]at P;repeat first
        |refine bZ rfl ?_
        |refine zG ?_
        |intro aD
        |refine rk ?_
       refine⟨F+1,Y,by show i.length-(F+1)<i.length-F;omega,?_,rfl,rfl⟩;exact .pick 3 [0,1,2,4] ⟨Z,Z,Z,Z,h9 (by rw[H,Yo];rfl),int_eq (cq om),tv⟩ rfl rfl rfl rfl rfl dc ⟨rfl,rfl,rfl,rfl,rfl,rfl,pg (by rw[H,Yx];exact congrArg (· ++_) (Yp sm)),fs _ 8 _,tv⟩
      ·have z:(ct cV.n acc)[F].oa=false:=z;rw[z,if_neg dc,List.append_nil]at H;exact⟨F+1,Y,by show i.length-(F+1)<i.length-F;omega,.same ⟨rfl,rfl,rfl,rfl,h9 (by rw[H]),int_eq (cq om),tv⟩ (by rw[H]),rfl,rfl⟩
     ·have Y:i.length<=F:=dM aJ;have aN:((ct cV.n acc).zip j).take F=(ct cV.n acc).zip j:=Yp (by rw[Ys];omega);rw[aN];refine cG g ap (cu f) [41] L ?_;refine By (j:=3) (ks:=CF ((ct cV.n acc).zip j)) Z ?_;have P:=zH ((ct cV.n acc).zip j);rw[Ys]at P;refine Fm x om (cY ap L) d.expect (fun ac=>absurd Z ac) (fun _=>?_);show eO (dK (ee a b g) g [41] [] p) _ _;rw[m];cases I:cD (g.tok f) [41]with
      |true=>rw[if_pos rfl,dY I];exact .ok rfl
      |false=>rw[if_neg (fun ac=>by cases ac),er I,cv,if_neg (by rw[h];decide)];exact .bad dc
    |true=>
     refine cP g (cu f) (by show f<4294967296;have:f<g.ts.length:=L;omega) ?_;have I:cD (g.tok f) [41]=false:=by
      cases I:cD (g.tok f) [41]with
      |false=>rfl
      |true=>exact absurd ((fx I).symm.trans (fx h)) dc
     have aO:f+1<g.ts.length:=ap.step L h;rw[if_neg (by rw[I];decide),cv,if_pos h,cv]at m;dsimp only at m;refine cw (eh:=VC (.d (.ps n 0 8 i.length i)) (.d (.ps v 0 8 j.length j))) (fN:=Uz g (cu (f+1))) (.drop 2 ⟨Z,Z,Z,Z,tv⟩ Z Z Z Z Z Z Z) ?_;refine b5.iter (fun G:Nat×List cV×List (List D)×List (List D)×Nat×Nat=>VC (.d (.ps G.2.2.2.2.1 0 8 G.2.2.1.length G.2.2.1)) (.d (.ps G.2.2.2.2.2 0 8 G.2.2.2.1.length G.2.2.2.1))) (fun G=>Uz g (cu G.1)) (fun G=>g.ts.length-G.1)
      (fun G=>p<G.1/\G.1<g.ts.length/\FH G.2.1 G.2.2.1 G.2.2.2.1/\0<G.2.2.1.length/\G.2.2.1.length<=G.1/\∃y,g.ts.length-G.1<=y/\dK (ee a b g) g [41] [] p=eY (ee a b g) g [41] y G.2.1 G.1) ?_ (f+1,acc,i,j,n,v) ⟨by show p<f+1;omega,aO,x,by show 0<i.length;omega,by show i.length<=f+1;omega,f0,by show g.ts.length-(f+1)<=f0;omega,m⟩
     clear m x N w ai bm i j acc aG;rintro⟨E,acc,i,j,n,v⟩ ⟨bD,bA,bv,bw,bu,y,bs,bC⟩;have ci:p<E:=bD;have bo:E<g.ts.length:=bA;have aW:FH acc i j:=bv;have Xf:0<i.length:=bw;have an:i.length<=E:=bu;have ch:g.ts.length-E<=y:=bs;have m:dK (ee a b g) g [41] [] p=eY (ee a b g) g [41] y acc E:=bC;clear bD bA bv bw bu bs bC;obtain⟨ba,bt⟩:∃al,y=al+1:=⟨y-1,om⟩;rw[bt,eY]at m;obtain⟨cl,cj⟩:=aW.len;have ck:((ct cV.n acc).map cV.pc).length=acc.length:=by rw[Yl,eK]
     refine dT g ap (cu E) 1 bo ?_;refine rY _ i ((ct cV.n acc).map cV.n) (by rw[List.map_map];rfl) aW.pc om n _ (fun bi=>?_);refine hP ((ct cV.n acc).map cV.n) _ bi _ (by rw[Yl,eK];omega) ?_;rw[aW.mem];obtain⟨aD,be⟩:∃aD,aD=decide ((cu E).dm g 1∈acc.map cV.n):=⟨_,rfl⟩;rw[<-be];have aS:=fv ap (x:=cu E) (k:=1) dc bo;have A:(if aD then((cu E).word g 1).fail (g.tok E).off 5 else(cu E).word g 1).p<g.ts.length:=by
      split
      ·rw[qY];exact aS
      ·exact aS
     have B:=mV (R:=g) be;have aH:(cu E).ge lo:=.yd om;have M:(if aD then((cu E).word g 1).fail (g.tok E).off 5 else(cu E).word g 1).ge lo:=by
      split
      ·exact aH.word.fail _ _ dc
      ·exact aH.word
     obtain⟨az,ao⟩:∃az,az=(if aD then((cu E).word g 1).fail (g.tok E).off 5 else(cu E).word g 1):=⟨_,rfl⟩;obtain⟨s,bl⟩:∃s,s=(cu E).dm g 1:=⟨_,rfl⟩;obtain⟨aq,aQ⟩:∃aq,aq=nb ((ct cV.n acc).map cV.n) s:=⟨_,rfl⟩;rw[<-ao]at A B M;rw[<-bl]at B⊢;rw[<-aQ];apply eg (ι:=Unit) (T:=fun _=>Xh (.d (.ps n 0 8 i.length i)) (.d (.ps v 0 8 j.length j)) 2 s aq) (S:=fun _=>mj g (cu E) az) (I:=fun _=>True)
     ·intro aa;apply aZ<;>intro ab
      ·repeat refine e4 ?_
       refine jm g _ (g.tok E).off 5 ?_;refine cw (eh:=Xh (.d (.ps n 0 8 i.length i)) (.d (.ps v 0 8 j.length j)) 2 s aq) (fN:=mj g (cu E) az) (.same ⟨Z,Z,Z,Z,Z,Z,Z,tv⟩ ?_) (aa () trivial);rw[ao,if_pos ab];rfl
      ·repeat refine e4 ?_
       refine cw (eh:=Xh (.d (.ps n 0 8 i.length i)) (.d (.ps v 0 8 j.length j)) 2 s aq) (fN:=mj g (cu E) az) (.same ⟨Z,Z,Z,Z,Z,Z,Z,tv⟩ ?_) (aa () trivial);rw[ao,ab];rfl
     ·intro _ _;have ax:=cY ap (s:=[58]) A;refine cG g ap _ [58] A ?_;refine br _ ax M.expect _ _ (fun al au av G y af ad ak ah q=>?_);have aj:=Ia B M ah q;repeat refine b1 ?_
      refine cJ g af [61] ad ?_;apply eg (ι:=(D×D×D×D×D×D×D×D)×Bool×RS) (T:=fun _=>UA (.d (.ps n 0 8 i.length i)) (.d (.ps v 0 8 j.length j)) 2 3 4 aq) (S:=fun k=>[.box (H6 g (cu E)),.box tx]++UB g s al au av G y k) (I:=fun k=>k.2.2.p<g.ts.length/\k.2.2.ge lo/\eO (ee a b g acc E) k.2.2 (fun r=>∃p,r=acc++[p]/\Fl p s [al,au,av,G,y] k.2.1 [k.1.1,k.1.2.1,k.1.2.2.1,k.1.2.2.2.1,k.1.2.2.2.2.1,k.1.2.2.2.2.2.1,k.1.2.2.2.2.2.2.1,k.1.2.2.2.2.2.2.2]))
      ·intro aa;cases ae:af.is g [61]with
       |true=>
        refine cP g af om ?_;have bp:=ap.step ad (dL ae).2;refine bx.call _ bp ak.next _ _ (fun U Q O R T X S W aV aL aE aF ar=>?_)
        repeat refine b1 ?_
        exact cw (eh:=UA (.d (.ps n 0 8 i.length i)) (.d (.ps v 0 8 j.length j)) 2 3 4 aq) (fN:=[.box (H6 g (cu E)),.box tx]++UB g s al au av G y ((U,Q,O,R,T,X,S,W),true,aV)) (.same ⟨Z,Z,Z,Z,Z,Z,Z,Z,tv⟩ Z) (aa ((U,Q,O,R,T,X,S,W),true,aV) ⟨aL,aE,Bx aj ae aF ar⟩)
       |false=>
        exact cw (eh:=UA (.d (.ps n 0 8 i.length i)) (.d (.ps v 0 8 j.length j)) 2 3 4 aq) (fN:=[.box (H6 g (cu E)),.box tx]++UB g s al au av G y ((.int .i64 0,.str [],.str [],.str [],.int .i64 0,.cC,.cC,.cC),false,af)) (.same ⟨Z,Z,Z,Z,Z,Z,Z,Z,tv⟩ Z) (aa ((.int .i64 0,.str [],.str [],.str [],.int .i64 0,.cC,.cC,.cC),false,af) ⟨ad,ak,Bw aj ae⟩)
      ·rintro⟨⟨U,Q,O,R,T,X,S,W⟩,aC,ay⟩ ⟨L,d,l⟩;have L:ay.p<g.ts.length:=L;have d:ay.ge lo:=d;have l:eO (ee a b g acc E) ay (fun r=>∃p,r=acc++[p]/\Fl p s [al,au,av,G,y] aC [U,Q,O,R,T,X,S,W]):=l;apply aZ<;>intro ab
       ·repeat refine e4 ?_
        have aw:ay.e≠0:=fun am=>by rw[am]at ab;cases ab
        repeat refine b1 ?_
        refine a6 0 (Or.inl ⟨.cC,ay,Z,L,d,(fun ac=>absurd Z ac),aw,⟨_,.nil⟩,fun _=>?_,Z⟩);show eO (dK (ee a b g) g [41] [] p) ay _;rw[m];cases t:ee a b g acc E with
        |bad aC am=>rw[t]at l;exact l
        |ok G E=>rw[t]at l;exact absurd (by rw[l.1];rfl) aw
       ·repeat refine e4 ?_
        have aK:ay.e=0:=iZ ab;obtain⟨u,f,ag,aP,aG⟩:∃u f,ee a b g acc E=.ok (acc++[u]) f/\ay=cu f/\Fl u s [al,au,av,G,y] aC [U,Q,O,R,T,X,S,W]:=by
         cases t:ee a b g acc E with
         |bad aC am=>rw[t]at l;exact absurd (l.2.2.symm.trans aK) l.1
         |ok r E=>rw[t]at l;obtain⟨bf,u,rfl,bn⟩:=l;exact⟨u,E,rfl,bf,bn⟩
        subst aP;rw[ag]at m;dsimp only at m;have aU:=yN ag B;have bq:=Fa ((ct cV.n acc).map cV.n) s;rw[Yl,eK,<-aQ]at bq;have x:=aW.ins aU aG;rw[<-aQ]at x;have Qm:aq<=i.length:=om;have Xe:aq<=j.length:=om;have Xg:0<j.length:=om;have bg:aq=i.length->aq=j.length:=fun ac=>om;clear l ab aj q ah B ax be ao A aS M;obtain⟨c,N⟩:∃c,c=i.take aq++Kn s al au av G y aC::i.drop aq:=⟨_,rfl⟩;obtain⟨e,w⟩:∃e,e=j.take aq++[U,Q,O,R,T,X,S,W]::j.drop aq:=⟨_,rfl⟩;rw[<-N,<-w]at x;have bQ:c.length=i.length+1:=by rw[N];simp only[Yo,Yq,Yw,Yv];omega
        have bS:e.length=j.length+1:=by rw[w];simp only[Yo,Yq,Yw,Yv];omega
        obtain⟨o,ai⟩:∃o,o=acc++[u]:=⟨_,rfl⟩;rw[<-ai]at x m;obtain⟨cm,cp⟩:=H9 ap bc aY (p:=E) om bo ag;apply eg (ι:=Nat×Nat) (T:=fun aD=>VB (.d (.ps aD.1 0 8 c.length c)) (.d (.ps aD.2 0 8 e.length e)) 2) (S:=fun _=>mj g (cu E) (cu f)) (I:=fun _=>True)
        ·intro aa;by_cases bb:aq=0
         ·repeat first
           |refine bZ rfl ?_
           |refine zG ?_
           |intro aD
           |refine rk ?_
          refine b5.freeze 7 [(1,.bp 0 0),(4,.bp 1 0),(5,.ms 7 8 0 c.length c.length),(6,.ms 10 8 0 e.length e.length),(9,.bp 2 0)] (es:=8) (els:=c.map fun am=>am.map V.d) (l:=c) (congrArg (fun r=>some (cU.row 8 r)) (by rw[N];exact(uq _ _ _ _ bb))) (ed _) ⟨rfl,rfl,h9 vI,h9 vI,rfl,tv⟩ ⟨tv,tv,fun _=>⟨rfl,Yn (Ym _)⟩,(fun ac=>by cases ac),tv,tv⟩ (fun n=>?_);refine b5.freeze 10 [(1,.bp 0 0),(4,.bp 1 0),(5,.d (.ps n 0 8 c.length c)),(6,.ms 10 8 0 e.length e.length),(9,.bp 2 0)] (es:=8) (els:=e.map fun am=>am.map V.d) (l:=e) (congrArg (fun r=>some (cU.row 8 r)) (by rw[w];exact(uq _ _ _ _ bb))) (ed _) ⟨rfl,rfl,jo rfl,rfl,rfl,tv⟩ ⟨tv,tv,tv,fun _=>⟨rfl,Yn (Ym _)⟩,tv,tv⟩ (fun v=>?_);exact cw (eh:=VB (.d (.ps n 0 8 c.length c)) (.d (.ps v 0 8 e.length e)) 2) (fN:=mj g (cu E) (cu f)) (.drop 3 ⟨Z,Z,Z,jo Z,Z,tv⟩ Z Z Z Z Z Z Z) (aa (n,v) trivial)
         ·by_cases aX:aq=i.length
          ·repeat first
            |refine bZ rfl ?_
            |refine zG ?_
            |intro aD
            |refine rk ?_
           refine b5.freeze 7 [(1,.bp 0 0),(4,.bp 1 0),(5,.ms 7 8 0 c.length c.length),(6,.ms 10 8 0 e.length e.length),(9,.bp 2 0)] (es:=8) (els:=c.map fun am=>am.map V.d) (l:=c) (congrArg (fun r=>some (cU.row 8 r)) (by rw[N];exact(ur _ _ _ _ aX))) (ed _) ⟨rfl,rfl,h9 vI,h9 vI,rfl,tv⟩ ⟨tv,tv,fun _=>⟨rfl,Yn (Ym _)⟩,(fun ac=>by cases ac),tv,tv⟩ (fun n=>?_);refine b5.freeze 10 [(1,.bp 0 0),(4,.bp 1 0),(5,.d (.ps n 0 8 c.length c)),(6,.ms 10 8 0 e.length e.length),(9,.bp 2 0)] (es:=8) (els:=e.map fun am=>am.map V.d) (l:=e) (congrArg (fun r=>some (cU.row 8 r)) (by rw[w];exact(ur _ _ _ _ (bg aX)))) (ed _) ⟨rfl,rfl,jo rfl,rfl,rfl,tv⟩ ⟨tv,tv,tv,fun _=>⟨rfl,Yn (Ym _)⟩,tv,tv⟩ (fun v=>?_);exact cw (eh:=VB (.d (.ps n 0 8 c.length c)) (.d (.ps v 0 8 e.length e)) 2) (fN:=mj g (cu E) (cu f)) (.drop 3 ⟨Z,Z,Z,jo Z,Z,tv⟩ Z Z Z Z Z Z Z) (aa (n,v) trivial)
          ·repeat first
            |refine bZ rfl ?_
            |refine zG ?_
            |intro aD
            |refine rk ?_
           refine b5.freeze 8 [(1,.bp 0 0),(4,.bp 1 0),(5,.ms 8 8 0 c.length c.length),(6,.ms 12 8 0 e.length e.length),(9,.bp 2 0)] (es:=8) (els:=c.map fun am=>am.map V.d) (l:=c) (congrArg (fun r=>some (cU.row 8 r)) (by rw[N];exact(uo _ _ _ _))) (ed _) ⟨rfl,rfl,h9 vI,h9 vI,rfl,tv⟩ ⟨tv,tv,fun _=>⟨rfl,Yn (Ym _)⟩,(fun ac=>by cases ac),tv,tv⟩ (fun n=>?_);refine b5.freeze 12 [(1,.bp 0 0),(4,.bp 1 0),(5,.d (.ps n 0 8 c.length c)),(6,.ms 12 8 0 e.length e.length),(9,.bp 2 0)] (es:=8) (els:=e.map fun am=>am.map V.d) (l:=e) (congrArg (fun r=>some (cU.row 8 r)) (by rw[w];exact(uo _ _ _ _))) (ed _) ⟨rfl,rfl,jo rfl,rfl,rfl,tv⟩ ⟨tv,tv,tv,fun _=>⟨rfl,Yn (Ym _)⟩,tv,tv⟩ (fun v=>?_);exact cw (eh:=VB (.d (.ps n 0 8 c.length c)) (.d (.ps v 0 8 e.length e)) 2) (fN:=mj g (cu E) (cu f)) (.drop 3 ⟨Z,Z,Z,jo Z,Z,tv⟩ Z Z Z Z Z Z Z) (aa (n,v) trivial)
        ·rintro⟨n,v⟩ _;refine cJ g (cu f) [44] L ?_;rw[eS];cases h:cD (g.tok f) [44]with
         |false=>
          have an:=x.pc.len;have bz:=x.Ua.len;rw[Yl]at an;refine cw (eh:=Wg n v c e (CF (((ct cV.n o).zip e).take 0)).length 0) (fN:=mj g (cu E) (cu f)++[.row 8 ((CF (((ct cV.n o).zip e).take 0)).map fun bk=>bk.map V.d)]) (.same ⟨Z,Z,Z,Z,Z,Z,tv⟩ Z) ?_;refine b5.iter (fun F:Nat=>Wg n v c e (CF (((ct cV.n o).zip e).take F)).length F) (fun F=>mj g (cu E) (cu f)++[.row 8 ((CF (((ct cV.n o).zip e).take F)).map fun bk=>bk.map V.d)]) (fun F=>c.length-F) (fun F=>F<=c.length) ?_ 0 (Yu _);intro F bY;apply aZ<;>intro aJ
          ·have Y:F<c.length:=fq aJ;have aA:F<(ct cV.n o).length:=an▸Y;obtain⟨cb,cc,bV,ce,bM,bU,bX,bE,bI,bW,cg,ca,bR,bP,bO,bh,t⟩:=x.get aA;have H:=H8 aA t;refine bZ Z ?_;refine b7 _ (by rw[cz];exact bh) ?_;apply aZ<;>intro z
           ·have z:(ct cV.n o)[F].oa=true:=z;rw[z,if_pos rfl]at H;refine bZ Z ?_;refine b7 _ (by rw[cz];exact t) ?_;have P:=zH (((ct cV.n o).zip e).take F);rw[Yq,Ys]at P;repeat first
             |refine bZ rfl ?_
             |refine zG ?_
             |intro aD
             |refine rk ?_
            refine⟨F+1,Y,by show c.length-(F+1)<c.length-F;omega,?_,rfl,rfl⟩;exact .pick 3 [0,1,2,4] ⟨Z,Z,Z,Z,h9 (by rw[H,Yo];rfl),int_eq (cq om),tv⟩ rfl rfl rfl rfl rfl dc ⟨rfl,rfl,rfl,rfl,rfl,rfl,pg (by rw[H,Yx];exact congrArg (· ++_) (Yp sm)),fs _ 8 _,tv⟩
           ·have z:(ct cV.n o)[F].oa=false:=z;rw[z,if_neg dc,List.append_nil]at H;exact⟨F+1,Y,by show c.length-(F+1)<c.length-F;omega,.same ⟨rfl,rfl,rfl,rfl,h9 (by rw[H]),int_eq (cq om),tv⟩ (by rw[H]),rfl,rfl⟩
          ·have Y:c.length<=F:=dM aJ;have aN:((ct cV.n o).zip e).take F=(ct cV.n o).zip e:=Yp (by rw[Ys];omega);rw[aN];refine cG g ap (cu f) [41] L ?_;refine By (j:=3) (ks:=CF ((ct cV.n o).zip e)) Z ?_;have P:=zH ((ct cV.n o).zip e);rw[Ys]at P;refine Fm x om (cY ap L) d.expect (fun ac=>absurd Z ac) (fun _=>?_);show eO (dK (ee a b g) g [41] [] p) _ _;rw[m];cases I:cD (g.tok f) [41]with
           |true=>rw[if_pos rfl,dY I];exact .ok rfl
           |false=>rw[if_neg (fun ac=>by cases ac),er I,cv,if_neg (by rw[h];decide)];exact .bad dc
         |true=>
          refine cP g (cu f) (by show f<4294967296;have:f<g.ts.length:=L;omega) ?_;have I:cD (g.tok f) [41]=false:=by
           cases I:cD (g.tok f) [41]with
           |false=>rfl
           |true=>exact absurd ((fx I).symm.trans (fx h)) dc
          have aO:f+1<g.ts.length:=ap.step L h;rw[if_neg (by rw[I];decide),cv,if_pos h,cv]at m;dsimp only at m;exact⟨(f+1,o,c,e,n,v),⟨by show p<f+1;omega,aO,x,by show 0<c.length;omega,by show c.length<=f+1;omega,ba,by show g.ts.length-(f+1)<=ba;omega,m⟩,by show g.ts.length-(f+1)<g.ts.length-E;omega,.drop 2 ⟨rfl,rfl,rfl,rfl,tv⟩ rfl rfl rfl rfl rfl rfl rfl,rfl,rfl⟩
theorem Fo(t:g.Wf){lo:Nat}(o:RZ du a g lo)(fn:Nat->PR (List cV))(f:RS)(e:f.p<g.ts.length)(c:f.e≠0):
  b3 C cn ji [f.v g] [] (VD fn g lo f):=by
 have p:=t.len;have m:f.ge lo:=.err c;refine cy SM (fun _=>Z) ?_;refine cJ g f [41] e ?_;rw[dv c];refine b5.loop ?_;refine dT g t f 1 e ?_;refine oe 2 Z (fun n=>?_);refine hP [] _ n 0 dc ?_;refine ft ?_;rw[lx c];refine cG g t f [58] e ?_;rw[eA c];refine o f e m _ _ (fun H J I F G x D v i s=>?_);have l:=i c;subst l;repeat refine b1 ?_
 refine cJ g x [61] e ?_;rw[dv c];refine ft ?_;refine aZ (fun j=>?_) (fun j=>absurd (iZ j) c);repeat refine e4 ?_
 repeat refine b1 ?_
 exact a6 0 (Or.inl ⟨.cC,x,Z,e,m,(fun _=>Z),c,⟨_,.nil⟩,fun E=>absurd E c,Z⟩)
theorem Ko(t:g.Wf){lo:Nat}(j:RZ du a g lo)(s:kW dP one b g lo)(l:∀o v p,lo<=o->o<g.ts.length->a o=.ok v p->o<p/\p<g.ts.length)(i:iD g lo b)(c:RS)(f:c.p<g.ts.length)(n:c.ge lo):
  b3 C cn ji [c.v g] [] (VD (dK (ee a b g) g [41] []) g lo c):=by
 by_cases e:c.e=0
 ·have m:=fX n e;have:=Ib t j s l i c.p (n e).1 f;rwa[<-m]at this
 ·exact Fo t j _ c f e
variable{z:List V} {y:FuncId}
theorem Fp{fn:Nat->PR (List cV)}{lo:Nat}(G:b3 C cn y z [] fun l j=>j=[]/\cX l=true/\We fn g lo q l)(v:gC 0 z=true){σ:VS}{K:cZ->VS->Prop} 
  (n:∀(e c:D) (f:RS),f.p<g.ts.length->f.ge lo->q.stay f->(∃i,eV i e)->(∃i,fM i c)->SL c<=g.ts.length->(q.e=0->eO (fn q.p) f (fun i=>eV ((ct cV.n i).map cV.pc) e/\fM ((ct cV.n i).flatMap cV.val) c))->K (.ret (.dN [.d e,.d c,f.v g])) σ):b3 C cn y z σ K:=by
 refine b3.closed G v (fun l x=>?_);obtain⟨e,c,f,p,m,E,o,t,F,s,rfl⟩:=x;exact n e c f p m E o t F s
theorem b3.fresh{fn:Nat->PR (List cV)}{lo:Nat}(x:b3 C cn y z [] (VD fn g lo q))(v:gC 0 z=true){σ:VS}{K:cZ->VS->Prop} 
  (E:∀(e:D) (f:RS),f.p<g.ts.length->f.ge lo->q.stay f->f.e≠0->(∃i,eV i e)->(q.e=0->eO (fn q.p) f (fun _=>False))->K (.ret (.dN [.d e,.d .cC,f.v g])) σ)
  (H:∀(e:D) (c:List (List D)) (f:RS),c.length<=g.ts.length->f.p<g.ts.length->f.ge lo->q.stay f->(∃i,eV i e)->(∃i,hh i c)->(q.e=0->eO (fn q.p) f (fun i=>eV ((ct cV.n i).map cV.pc) e/\hh ((ct cV.n i).flatMap cV.val) c))->K (.ret (.dN [.d e,.ms σ.length 8 0 c.length c.length,f.v g])) (σ++[.row 8 (c.map fun o=>o.map V.d)])):b3 C cn y z σ K:=by
 refine x.frame [] Z List.nodup_nil (fun M N x=>by simp at x) v (gk _ z v).symm (fun L G x _=>?_);have J:∀(p:Nat->Nat) (f:RS),iv p (f.v g)=f.v g:=fun p f=>jh p _ rfl;rcases x with⟨e,f,rfl,m,j,s,l,n,t,rfl⟩|⟨e,c,f,rfl,F,m,j,s,l,n,t,rfl⟩
 ·have I:merge σ [] (([]:VS).map (eC (jO [] σ.length)))=σ:=by simp[merge]
  rw[I];exact E e f m j s l n t
 ·have I:merge σ [] (([.row 8 (c.map fun o=>o.map V.d)]:VS).map (eC (jO [] σ.length)))=σ++[.row 8 (c.map fun o=>o.map V.d)]:=by
   show σ++[eC (jO [] σ.length) (.row 8 (c.map fun o=>o.map V.d))]=_;rw[mM]
  rw[I];exact H e c f F m j s l n t
theorem P8{p f:Nat}{l:List Ty}(e:fA a g p=.ok l f)(c:cD (g.tok p) [91]=true):l≠[]:=by
 rw[fA,if_pos c]at e;exact yK _ _ _ _ _ e
def Ds(e:Rd)(p:Nat):PR (Nat×List UInt8×List UInt8):=(dy e p).bind fun f c=>if cD (e.tok c) [58,58]then(dy e (c+1)).map fun i=>(4,f,i)else .ok (3,[],f) c
def vF(c:Nat->PR Ty)(e:Rd)(p:Nat):PR Ex:=(dy e p).bind fun i f=>hF c e i f
theorem P9(c:Nat->PR Ty)(f:Rd)(p:Nat):vF c f p=(Ds f p).bind fun x e=>(fA c f e).map fun i=>.mk (if i=[]then x.1 else 4) x.2.1 x.2.2 [] 0 i [] []:=by
 have j:∀v n m e,(if cD (f.tok e) [91]=true then(fA c f e).map fun i=>Ex.mk 4 n m [] 0 i [] []else .ok (.mk v n m [] 0 [] [] []) e)=(fA c f e).map fun i=>Ex.mk (if i=[]then v else 4) n m [] 0 i [] []:=by
  intro v n m e;cases l:cD (f.tok e) [91]with
  |true=>
   rw[if_pos rfl];cases t:fA c f e with
   |bad D o=>rfl
   |ok i E=>
    have:=P8 t l;simp only[PR.map,if_neg this]
  |false=>
   have o:fA c f e=.ok [] e:=by rw[fA,if_neg (by rw[l];decide)]
   rw[if_neg dc,o];simp[PR.map]
 rw[vF,Ds];cases dy f p with
 |bad D o=>rfl
 |ok s e=>
  simp only[PR.bind,hF,j];split<;>rename_i C
  ·rw[C]
  ·rw[C]
def UC:List V:=[.d (.int .i64 0),.d (.str []),.d (.str []),.d (.str []),.d (.int .i64 0),.d .cC,.d .cC,.d .cC]
def Uc(e:Rd)(f:RS)(c:Nat×List UInt8×List UInt8×RS):VS:=[.box (H6 e f),.box UC,.box tx,.box (H6 e c.2.2.2),.box [b6 c.1,cE c.2.1,cE c.2.2.1,.d (.str []),.d (.int .i64 0),.d .cC,.d .cC,.d .cC]]
def Ud:Tm:=[(2,.bp 1 0),(3,.bp 2 0),(6,.bp 3 0),(7,.bp 4 0)]
def VE:Nat->Bool:=fun c=>Yr c 1000006
theorem Qa(U:g.Wf){lo:Nat}(w:AG a g lo):kW s6 one (vF a g) g lo:=by
 have u:=U.len;refine kW.of (fun c=>Z) (fun c b H=>?_);refine cy VE (fun _=>Z) ?_;refine dT g U c 1 b ?_;have o:=fv U (k:=1) dc b;refine cJ g _ [58,58] o ?_;apply eg (ι:=Nat×List UInt8×List UInt8×RS) (T:=fun _=>Ud) (S:=fun G=>Uc g c G) (I:=fun G=>G.2.2.2.p<g.ts.length/\G.2.2.2.ge lo/\c.stay G.2.2.2/\(c.e=0->eO (Ds g c.p) G.2.2.2 (fun s=>s=(G.1,G.2.1,G.2.2.1))))
 ·intro V;cases R:(c.word g 1).is g [58,58]with
  |true=>
   obtain⟨L,e⟩:=dL R;refine cP g _ om ?_;have J:(c.word g 1).next.p<g.ts.length:=U.step o e
   refine dT g U _ 1 J ?_;refine cw (eh:=Ud) (fN:=Uc g c (4,c.dm g 1,(c.word g 1).next.dm g 1,(c.word g 1).next.word g 1)) (.same ⟨Z,Z,Z,Z,tv⟩ Z) (V (4,c.dm g 1,(c.word g 1).next.dm g 1,(c.word g 1).next.word g 1) ⟨fv U (k:=1) dc J,H.word.next.word,fun I=>?_,fun F=>?_⟩)
   ·rw[lx I]at L;exact absurd L I
   ·have p:=fX H F;rw[Ds];have C:=eO.name g c.p;rw[<-p]at C;refine eO.bind C (fun af=>absurd L af) (fun s q t Q=>?_);rw[t]at e⊢;have e:cD (g.tok q) [58,58]=true:=e;rw[if_pos e];exact eO.map (eO.name g (q+1)) (fun aj y=>by rw[<-Q,<-y];rfl)
  |false=>
   refine cw (eh:=Ud) (fN:=Uc g c (3,[],c.dm g 1,c.word g 1)) (.same ⟨Z,Z,Z,Z,tv⟩ Z) (V (3,[],c.dm g 1,c.word g 1) ⟨o,H.word,.word,fun F=>?_⟩);have p:=fX H F;rw[Ds];have C:=eO.name g c.p;rw[<-p]at C;refine eO.bind C (fun _=>Z) (fun s q t Q=>?_);rw[t]at R⊢;have e:cD (g.tok q) [58,58]=false:=cM R rfl;rw[if_neg (by rw[e];decide),<-Q];exact .ok Z
 ·rintro⟨T,aa,B,d⟩ ⟨O,x,i,l⟩;have O:d.p<g.ts.length:=O;have x:d.ge lo:=x;have i:c.stay d:=i;have l:c.e=0->eO (Ds g c.p) d (fun s=>s=(T,aa,B)):=l;refine w d O x _ _ (fun A r N v f k n _=>?_);have m:∀M,(∀S,fK S A->(if S=[]then T else 4)=M)->(c.e=0->eO (vF a g c.p) r (fun ag=>hY ag [.int .i64 (Yt M),.str aa,.str B,.str [],.int .i64 0,A,.cC,.cC])):=fun M X F=>by
   rw[P9];refine eO.bind (l F) f (fun G q t z=>?_);subst z;rw[t]at n;exact eO.map (n Z) (fun S j=>by rw[<-X S j];exact .mk j .nil .nil)
  obtain⟨ae,W⟩:=k;rcases W.inv with⟨rfl,rfl⟩|⟨al,ak,G,D,rfl,ad⟩
  ·repeat refine b1 ?_
   exact a6 0 ⟨Z,Z,_,_,_,_,_,_,_,_,r,N,v,i.trans f,m T (fun S j=>by cases j;rfl),rfl⟩
  ·apply aZ<;>intro e
   ·repeat refine b1 ?_
    refine a6 0 ⟨Z,Z,_,_,_,_,_,_,_,_,r,N,v,i.trans f,m 4 (fun S j=>?_),Z⟩;cases j with
    |ps E _=>
     have K:=E.len;have P:Yt 0<Yt D.length:=of_decide_eq_true e;rw[if_neg (fun ah=>by subst ah;simp at K;subst K;simp at P)]
   ·repeat refine b1 ?_
    refine a6 0 ⟨Z,Z,_,_,_,_,_,_,_,_,r,N,v,i.trans f,m T (fun S j=>?_),Z⟩;cases j with
    |ps E _=>
     have K:=E.len;have P:¬(Yt 0<Yt D.length):=of_decide_eq_false e;have ab:D.length=0:=by simp only[Int.ofNat_eq_natCast]at P;omega
     rw[if_pos (List.eq_nil_of_length_eq_zero om)]
theorem ph{σ:VS}{m c e f l i j:D}{els:List (List D)}(s:nth σ u=some (.row 8 (els.map fun F=>F.map V.d)))(p:A=els.length){C:cZ->Prop}(v:∀n,C (.ret (.dN [.agg [.d m,.d c,.d e,.d f,.d l,.d i,.d j,.d (.ps n 0 8 A els)],q.v g]))):
  cR 0 (.ret (.dN [.agg [.d m,.d c,.d e,.d f,.d l,.d i,.d j,.ms u 8 0 A A],q.v g])) σ fun x o=>o=[]/\cX x=true/\C x:=by
 refine cR.freeze u (es:=8) (l:=els) s (ed els) (by simp[xS,pi,pN,RS.v,b6,p]) (fun n=>?_);have E:sU u n els (.ret (.dN [.agg [.d m,.d c,.d e,.d f,.d l,.d i,.d j,.ms u 8 0 A A],q.v g]))=.ret (.dN [.agg [.d m,.d c,.d e,.d f,.d l,.d i,.d j,.d (.ps n 0 8 A els)],q.v g]):=by
  show cZ.ret (.dN [.agg [.d m,.d c,.d e,.d f,.d l,.d i,.d j,iW u n els (.ms u 8 0 A A)],iW u n els (q.v g)])=_;have t:iW u n els (q.v g)=q.v g:=by simp[RS.v,iW,wx,b6]
  rw[t,iW,gE];show cZ.ret (.dN [.agg [_,_,_,_,_,_,_,.d (.ps n (0*8) 8 A ((els.drop 0).take A))],_])=_;rw[gD _ _ p,Nat.zero_mul]
 rw[E];exact cR.drop 0 (Nat.ble_eq_true_of_le (Yu _)) (qV 0 _) Z (cR.now Z ⟨Z,Z,v n⟩)
def qk(f:Nat->PR Ty)(c:Nat->PR Ex)(i:Rd)(p:Nat):PR Ex:=(f p).bind fun l j=>(cv i [[124]] j).bind fun _ e=>(dK (iT c) i [93] [] e).map fun m=>.mk 14 [] [] [] 0 [l] [] m
def VF:Nat->Bool:=fun c=>Yr c 16||Yr c 36
def VG:Tm:=[(1,.bp 0 0),(2,.bp 1 0),(3,.bp 2 0),(5,.bp 4 0)]
def VH(p:Rd)(o:RS)(i l n j f:D)(bT:Nat)(c:List (List D)):VS:=match c with
 |[]=>[.box (H6 p o),.box UC,.box tx,.box [.d i,.d l,.d n,.d j,.d f],.box [.d (.int .i64 (Yt 14)),.d (.str []),.d (.str []),.d (.str []),.d (.int .i64 (Yt 0)),.d (.ps bT 0 5 1 [[i,l,n,j,f]]),.d .cC,.d .cC]]
 |e::m=>[.box (H6 p o),.box UC,.box tx,.box [.d i,.d l,.d n,.d j,.d f],.box [.d (.int .i64 (Yt 14)),.d (.str []),.d (.str []),.d (.str []),.d (.int .i64 (Yt 0)),.d (.ps bT 0 5 1 [[i,l,n,j,f]]),.d .cC,.ms 5 8 0 (m.length+1) (m.length+1)],.row 8 ((e::m).map fun s=>s.map V.d)]
theorem R5(e:List D)(f:List (List D))(c:List D):List.take (f.length+1) (List.drop 0 (List.map (fun c=>List.map V.d c) (e::f)))++[c.map V.d]=(e::(f++[c])).map fun c=>c.map V.d:=by
 rw[List.drop_zero,Yp sm];simp
theorem R6(af:g.Wf){lo:Nat}(aj:RZ du a g lo)(aA:kW dP one b g lo)(ah:iD g lo b):kW uG one (qk a b g) g lo:=by
 have aF:=af.len;refine kW.of (fun J=>Z) (fun J aK aH=>?_);refine cy VF (fun _=>Z) ?_;refine aj J aK aH _ _ (fun u ap aq y ao q E K x al=>?_);repeat refine b1 ?_
 refine cG g af q [124] E ?_;have Y:=cY af (s:=[124]) E;intro bT;repeat refine b1 ?_
 refine cJ g _ [93] Y ?_;have C:(q.expect g [124]).ge lo:=K.expect;have x:J.stay (q.expect g [124]):=x.trans .expect;have f:J.e=0->eO ((a J.p).bind fun G i=>(cv g [[124]] i).map fun _=>G) (q.expect g [124]) (fun G=>hU G [u,ap,aq,y,ao]):=fun l=>by
  refine eO.bind (al l) .expect (fun G i ad T=>?_);rw[ad];exact eO.map (kc g i [124]) (fun _ _=>T)
 have A:qk a b g J.p=((a J.p).bind fun G i=>(cv g [[124]] i).map fun _=>G).bind fun G aJ=>(dK (iT b) g [93] [] aJ).map fun aB=>.mk 14 [] [] [] 0 [G] [] aB:=by
  rw[qk];cases a J.p with
  |bad an ae=>rfl
  |ok G i=>
   simp only[PR.bind];cases cv g [[124]] i<;>rfl
 generalize q.expect g [124]=p at*;cases am:p.is g [93]with
 |true=>
  obtain⟨c,H⟩:=dL am;repeat refine b1 ?_
  refine cP g p om ?_;repeat refine b1 ?_
  refine a6 0 ⟨Z,Z,_,_,_,_,_,_,_,_,p.next,af.step Y H,C.next,fun o=>?_,fun l=>?_,Z⟩
  ·rw[x o]at c;exact absurd c o
  ·rw[A];refine eO.bind (f l) (fun o=>absurd c o) (fun G i ad T=>?_);rw[ad]at H⊢;have H:cD (g.tok i) [93]=true:=H;rw[dK,if_pos H];exact .ok (.mk (.ps (.cons T .nil) sm) .nil .nil)
 |false=>
  refine cw (eh:=VG) (fN:=VH g p u ap aq y ao bT []) (.same ⟨Z,Z,Z,Z,tv⟩ Z) ?_;refine b5.iter (fun _:RS×List Ex×List (List D)=>VG) (fun W=>VH g W.1 u ap aq y ao bT W.2.2) (fun W=>g.ts.length-W.1.p)
   (fun W=>W.1.p<g.ts.length/\W.1.ge lo/\J.stay W.1/\hh W.2.1 W.2.2/\W.2.2.length<=W.1.p/\(J.e=0->W.1.e≠0->eO (qk a b g J.p) W.1 (fun _=>False))/\
    (J.e=0->W.1.e=0->∃G ab,g.ts.length-W.1.p<=ab/\hU G [u,ap,aq,y,ao]/\qk a b g J.p=(eY (iT b) g [93] ab W.2.1 W.1.p).map fun aB=>.mk 14 [] [] [] 0 [G] [] aB)) ?_ (p,[],[]) ⟨Y,C,x,.nil,Yu _,fun l X=>?_,fun l c=>?_⟩
  ·rintro⟨p,w,k⟩ ⟨aD,aC,aE,az,av,au,ar⟩;have Y:p.p<g.ts.length:=aD;have C:p.ge lo:=aC;have x:J.stay p:=aE;have ag:hh w k:=az;have aw:k.length<=p.p:=av;have ac:J.e=0->p.e≠0->eO (qk a b g J.p) p (fun _=>False):=au;have I:J.e=0->p.e=0->∃G ab,g.ts.length-p.p<=ab/\hU G [u,ap,aq,y,ao]/\qk a b g J.p=(eY (iT b) g [93] ab w p.p).map fun aB=>.mk 14 [] [] [] 0 [G] [] aB:=ar;clear aD aC aE az av au ar;rcases k with _|⟨z,ai⟩
   ·refine aA.call p Y C _ _ (fun S O N P R V Q U q E K t F=>?_);apply aZ<;>intro H
    ·repeat refine e4 ?_
     have X:q.e≠0:=fun ae=>by rw[ae]at H;cases H
     repeat refine b1 ?_
     refine a6 0 ⟨Z,Z,_,_,_,_,_,_,_,_,q,E,K,x.trans t,fun l=>?_,Z⟩;by_cases c:p.e=0
     ·obtain⟨G,n,ak,aj,f⟩:=I l c;obtain⟨n,rfl⟩:∃u,n=u+1:=⟨n-1,om⟩;rw[f,eY,iT];have e:=F c;cases j:b p.p with
      |bad an ae=>rw[j]at e;exact e
      |ok y i=>rw[j]at e;exact absurd (by rw[e.1];rfl) X
     ·rw[t c];exact(ac l c).imp (fun _ o=>o.elim)
    ·repeat refine e4 ?_
     have L:q.e=0:=iZ H;have c:p.e=0:=by
      by_cases o:p.e=0
      ·exact o
      ·rw[t o]at L;exact absurd L o
     have l:J.e=0:=by
      by_cases o:J.e=0
      ·exact o
      ·rw[x o]at c;exact absurd c o
     obtain⟨G,n,ak,h,f⟩:=I l c;obtain⟨n,rfl⟩:∃u,n=u+1:=⟨n-1,om⟩;obtain⟨M,i,d,aa,T⟩:∃M i,b p.p=.ok M i/\q=cu i/\hY M [S,O,N,P,R,V,Q,U]:=by
      have e:=F c;cases j:b p.p with
      |bad an ae=>rw[j]at e;exact absurd (e.2.2.symm.trans L) e.1
      |ok y i=>rw[j]at e;exact⟨y,i,rfl,e.1,e.2⟩
     subst aa;obtain⟨r,ad⟩:=ah p.p M i (C c).1 Y d;rw[eY,iT,d]at f;simp only[PR.map]at f;repeat first
      |refine bZ rfl ?_
      |intro aI
      |refine zG ?_
      |refine a8 rfl ?_
      |refine a1 rfl ?_
     refine cJ g (cu i) [44] E ?_;rw[eS];cases v:cD (g.tok i) [44]with
     |false=>
      repeat refine b1 ?_
      refine cG g af (cu i) [93] E ?_;repeat refine b1 ?_
      refine ph (els:=[[S,O,N,P,R,V,Q,U]]) Z Z (fun aI=>?_);refine⟨_,_,_,_,_,_,_,_,_,cY af E,K.expect,fun o=>absurd l o,fun _=>?_,Z⟩;rw[f];cases m:cD (g.tok i) [93]with
      |true=>rw[dY m];exact .ok (.mk (.ps (.cons h .nil) sm) .nil (.ps (ag.snoc T)))
      |false=>rw[er m,cv,v];exact .bad dc
     |true=>
      refine cP g (cu i) (by show i<4294967296;omega) ?_;have m:cD (g.tok i) [93]=false:=by
       cases m:cD (g.tok i) [93]with
       |false=>rfl
       |true=>exact absurd ((fx m).symm.trans (fx v)) dc
      have B:i+1<g.ts.length:=af.step E v;rw[if_neg (by rw[m];decide),cv,if_pos v,cv]at f;dsimp only at f;exact⟨(cu (i+1),w++[M],[[S,O,N,P,R,V,Q,U]]),⟨B,.yd (by have:=(C c).1;omega),(fun o=>absurd l o),ag.snoc T,by show 1<=i+1;omega,(fun _ o=>absurd rfl o),fun _ _=>⟨G,n,by show g.ts.length-(i+1)<=n;omega,h,f⟩⟩,by show g.ts.length-(i+1)<g.ts.length-p.p;omega,.pick 5 [0,1,2,3,4,7] ⟨rfl,rfl,rfl,rfl,tv⟩ rfl rfl rfl rfl rfl dc ⟨rfl,rfl,rfl,rfl,rfl,rfl,rfl,rfl,rfl,rfl,pg rfl,fs _ 8 _,tv⟩,rfl,rfl⟩
   ·have aL:ai.length+1<=p.p:=aw;refine aA.call p Y C _ _ (fun S O N P R V Q U q E K t F=>?_);apply aZ<;>intro H
    ·repeat refine e4 ?_
     have X:q.e≠0:=fun ae=>by rw[ae]at H;cases H
     repeat refine b1 ?_
     refine a6 0 ⟨Z,Z,_,_,_,_,_,_,_,_,q,E,K,x.trans t,fun l=>?_,Z⟩;by_cases c:p.e=0
     ·obtain⟨G,n,ak,aj,f⟩:=I l c;obtain⟨n,rfl⟩:∃u,n=u+1:=⟨n-1,om⟩;rw[f,eY,iT];have e:=F c;cases j:b p.p with
      |bad an ae=>rw[j]at e;exact e
      |ok y i=>rw[j]at e;exact absurd (by rw[e.1];rfl) X
     ·rw[t c];exact(ac l c).imp (fun _ o=>o.elim)
    ·repeat refine e4 ?_
     have L:q.e=0:=iZ H;have c:p.e=0:=by
      by_cases o:p.e=0
      ·exact o
      ·rw[t o]at L;exact absurd L o
     have l:J.e=0:=by
      by_cases o:J.e=0
      ·exact o
      ·rw[x o]at c;exact absurd c o
     obtain⟨G,n,ak,h,f⟩:=I l c;obtain⟨n,rfl⟩:∃u,n=u+1:=⟨n-1,om⟩;obtain⟨M,i,d,aa,T⟩:∃M i,b p.p=.ok M i/\q=cu i/\hY M [S,O,N,P,R,V,Q,U]:=by
      have e:=F c;cases j:b p.p with
      |bad an ae=>rw[j]at e;exact absurd (e.2.2.symm.trans L) e.1
      |ok y i=>rw[j]at e;exact⟨y,i,rfl,e.1,e.2⟩
     subst aa;obtain⟨r,ad⟩:=ah p.p M i (C c).1 Y d;rw[eY,iT,d]at f;simp only[PR.map]at f;repeat first
      |refine bZ rfl ?_
      |intro aI
      |refine zG ?_
      |refine a8 rfl ?_
      |refine a1 rfl ?_
      |refine a1 (dZ _) ?_
     refine cJ g (cu i) [44] E ?_;rw[eS];cases v:cD (g.tok i) [44]with
     |false=>
      repeat refine b1 ?_
      refine cG g af (cu i) [93] E ?_;repeat refine b1 ?_
      refine ph (els:=(z::(ai++[[S,O,N,P,R,V,Q,U]]))) (by exact HA 8 z ai _) sm (fun aI=>?_);refine⟨_,_,_,_,_,_,_,_,_,cY af E,K.expect,fun o=>absurd l o,fun _=>?_,Z⟩;rw[f];cases m:cD (g.tok i) [93]with
      |true=>rw[dY m];exact .ok (.mk (.ps (.cons h .nil) sm) .nil (.ps (ag.snoc T)))
      |false=>rw[er m,cv,v];exact .bad dc
     |true=>
      refine cP g (cu i) (by show i<4294967296;omega) ?_;have m:cD (g.tok i) [93]=false:=by
       cases m:cD (g.tok i) [93]with
       |false=>rfl
       |true=>exact absurd ((fx m).symm.trans (fx v)) dc
      have B:i+1<g.ts.length:=af.step E v;rw[if_neg (by rw[m];decide),cv,if_pos v,cv]at f;dsimp only at f;exact⟨(cu (i+1),w++[M],z::(ai++[[S,O,N,P,R,V,Q,U]])),⟨B,.yd (by have:=(C c).1;omega),(fun o=>absurd l o),ag.snoc T,by show(z::(ai++[[S,O,N,P,R,V,Q,U]])).length<=i+1;simp only[Yv,Yo,List.length_nil];omega,(fun _ o=>absurd rfl o),fun _ _=>⟨G,n,by show g.ts.length-(i+1)<=n;omega,h,f⟩⟩,by show g.ts.length-(i+1)<g.ts.length-p.p;omega,.pick 5 [0,1,2,3,4,8] ⟨rfl,rfl,rfl,rfl,tv⟩ rfl rfl rfl rfl rfl dc ⟨rfl,rfl,rfl,rfl,rfl,rfl,rfl,rfl,(by exact congrArg (fun ax=>some (cU.box [.d (.int .i64 (Yt 14)),.d (.str []),.d (.str []),.d (.str []),.d (.int .i64 (Yt 0)),.d (.ps bT 0 5 1 [[u,ap,aq,y,ao]]),.d .cC,.ms 8 8 0 ax ax])) (by simp:ai.length+1+1=(ai++[[S,O,N,P,R,V,Q,U]]).length+1)),rfl,pg (R5 z ai _),fs _ 8 _,tv⟩,rfl,rfl⟩
  ·have e:=f l;rw[A];cases j:((a J.p).bind fun G i=>(cv g [[124]] i).map fun _=>G)with
   |bad an ae=>rw[j]at e;exact e
   |ok G i=>rw[j]at e;exact absurd (by rw[e.1];rfl) X
  ·have e:=f l;cases j:((a J.p).bind fun G i=>(cv g [[124]] i).map fun _=>G)with
   |bad an ae=>rw[j]at e;exact absurd (e.2.2.symm.trans c) e.1
   |ok G i=>
    rw[j]at e;obtain⟨r,ay⟩:=e;refine⟨G,g.ts.length,Nat.sub_le _ _,ay,?_⟩;have aG:cD (g.tok i) [93]=false:=by rw[r]at am;exact cM am rfl
    rw[A,j];show(dK (iT b) g [93] [] i).map _=_;rw[dK,if_neg (by rw[aG];decide),r];rfl
theorem RS.ge.p5{lo:Nat}(e:q.ge lo):q.next.ge (lo+1):=fun c=>⟨Nat.succ_le_succ (e c).1,(e c).2⟩
theorem RS.ge.low{lo:Nat}(c:q.ge (lo+1)):q.ge lo:=c.mono (Nat.le_succ lo)
theorem ly{t:Tok}(c:cD t k=true):¬t.kind=1/\¬t.kind=3/\¬t.kind=4:=by
 simp only[cD,Bool.and_eq_true,Bool.or_eq_true,decide_eq_true_eq]at c;omega
def R7(c:Nat->PR Ex)(f:Rd)(p:Nat):PR Ex:=(dy f p).bind fun l i=>(ep c f [58] i).bind fun j e=>(cv f [[62]] e).map fun _=>.mk 7 [] l [] 0 [] [] [j]
def Nl(j:Nat->PR Ty)(e:Nat->PR Ex)(i:Rd)(p:Nat):PR Ex:=(e p).bind fun l c=>if cD (i.tok c) [58]then(j (c+1)).bind fun m f=>(cv i [[41]] f).map fun _=>.mk 11 [] [] [] 0 [m] [] [l]else(cv i [[41]] c).map fun _=>l
theorem nc(f:Nat->PR Ty)(e:Nat->PR Ex)(c:Rd)(p:Nat):fb f e c p=
 if(c.tok p).kind=3 then oc 9223372036854775807 c p
 else if(c.tok p).kind=4 then .ok (.mk 1 [] [] (c.tok p).text 0 [] [] []) (p+1)
 else if(c.tok p).kind=1 then vF f c p
 else if cD (c.tok p) [116,114,117,101]then .ok (.mk 2 [] [] [] 1 [] [] []) (p+1)
 else if cD (c.tok p) [102,97,108,115,101]then .ok (.mk 2 [] [] [] 0 [] [] []) (p+1)
 else if cD (c.tok p) [123]then hZ e c [125] 5 [] (p+1)
 else if cD (c.tok p) [60]then R7 e c (p+1)
 else if cD (c.tok p) [91]then qk f e c (p+1)
 else if cD (c.tok p) [40]then Nl f e c (p+1)
 else .bad (c.tok p).off 3:=by
 have v:R7 e c (p+1)=match dy c (p+1)with
  |.bad i l=>.bad i l
  |.ok s j=>match ep e c [58] j with
   |.bad i l=>.bad i l
   |.ok n m=>(cv c [[62]] m).map fun _=>.mk 7 [] s [] 0 [] [] [n]:=by
  rw[R7];cases dy c (p+1)with
  |bad i l=>rfl
  |ok s j=>simp only[PR.bind];cases ep e c [58] j<;>rfl
 have E:qk f e c (p+1)=match f (p+1)with
  |.bad i l=>.bad i l
  |.ok C j=>match cv c [[124]] j with
   |.bad i l=>.bad i l
   |.ok _ m=>(dK (iT e) c [93] [] m).map fun H=>.mk 14 [] [] [] 0 [C] [] H:=by
  rw[qk];cases f (p+1)with
  |bad i l=>rfl
  |ok s j=>simp only[PR.bind];cases cv c [[124]] j<;>rfl
 have x:Nl f e c (p+1)=match e (p+1)with
  |.bad i l=>.bad i l
  |.ok n j=>match(if cD (c.tok j) [58]then(f (j+1)).map fun C=>.mk 11 [] [] [] 0 [C] [] [n]else .ok n j:PR Ex)with
   |.bad i l=>.bad i l
   |.ok F m=>(cv c [[41]] m).map fun _=>F:=by
  rw[Nl];cases e (p+1)with
  |bad i l=>rfl
  |ok n j=>
   simp only[PR.bind];cases cD (c.tok j) [58]with
   |true=>rw[if_pos rfl,if_pos rfl];cases f (j+1)<;>rfl
   |false=>rw[if_neg dc,if_neg dc]
 have D:(c.tok p).kind=1->vF f c p=hF f c (c.tok p).text (p+1):=fun G=>by
  rw[vF,dy,if_neg (fun t=>t G)];rfl
 rw[fb,v,E,x];by_cases o:(c.tok p).kind=1
 ·rw[D o];rfl
 ·simp only[if_neg o];rfl
def SN:Nat->Bool:=fun c=>Yr c 79||Yr c 107||Yr c 109
theorem R8(C:g.Wf)(B:∀ar,HX (g.tok ar)){lo:Nat}(al:AG a g lo)(z:RZ du a g (lo+1))(W:kW dP one b g (lo+1))(q:iD g (lo+1) b):kW jj one (fb a b g) g lo:=by
 have aj:=C.len;refine kW.of (fun f=>Z) (fun f i v=>?_);have G:f.e=0->f=cu f.p:=fun E=>fX v E;refine cy SN (fun _=>Z) ?_;refine gj g f 3 i ?_;cases M:f.isKind g 3 with
 |true=>
  obtain⟨c,j⟩:=me M;refine(P3 C B false lo).call f i v _ _ (fun Y T S U X h V d H n l p e=>?_);exact a6 0 ⟨Z,Z,_,_,_,_,_,_,_,_,H,n,l,p,fun _=>by rw[nc,if_pos j];exact e c,rfl⟩
 |false=>
  refine gj g f 4 i ?_;cases R:f.isKind g 4 with
  |true=>
   obtain⟨c,m⟩:=me R;have j:=gX M c;have t:f.p+1<g.ts.length:=C.go _ _ (b8 i) om;have D:=G c;have ah:=rA (b8 i);repeat refine b4 ?_
   refine bZ Z ?_;refine b7 _ ah ?_;repeat refine b4 ?_
   refine cP g f om ?_;repeat refine b4 ?_
   refine a6 0 ⟨Z,Z,_,_,_,_,_,_,_,_,f.next,t,v.next,(fun E=>absurd c E),fun _=>?_,Z⟩;rw[nc,if_neg j,if_pos m,D];exact .ok (.mk .nil .nil .nil)
  |false=>
   refine cJ g f [116,114,117,101] i ?_;cases x:f.is g [116,114,117,101]with
   |true=>
    obtain⟨c,t1⟩:=dL x;have t:=C.step i t1;have D:=G c;obtain⟨o,j,m⟩:=ly t1;refine cP g f om ?_;refine a6 0 ⟨Z,Z,_,_,_,_,_,_,_,_,f.next,t,v.next,(fun E=>absurd c E),fun _=>?_,Z⟩;rw[nc,if_neg j,if_neg m,if_neg o,if_pos t1,D];exact .ok (.mk .nil .nil .nil)
   |false=>
    refine cJ g f [102,97,108,115,101] i ?_;cases F:f.is g [102,97,108,115,101]with
    |true=>
     obtain⟨c,t2⟩:=dL F;have t:=C.step i t2;have D:=G c;have t1:=cM x c;obtain⟨o,j,m⟩:=ly t2;refine cP g f om ?_;refine a6 0 ⟨Z,Z,_,_,_,_,_,_,_,_,f.next,t,v.next,(fun E=>absurd c E),fun _=>?_,Z⟩;rw[nc,if_neg j,if_neg m,if_neg o,t1,if_neg dc,if_pos t2,D];exact .ok (.mk .nil .nil .nil)
    |false=>
     refine gj g f 1 i ?_;cases w:f.isKind g 1 with
     |true=>
      obtain⟨c,o⟩:=me w;have j:=gX M c;have m:=gX R c;refine(Qa C al).call f i v _ _ (fun Y T S U X h V d H n l p e=>?_);exact a6 0 ⟨Z,Z,_,_,_,_,_,_,_,_,H,n,l,p,fun _=>by rw[nc,if_neg j,if_neg m,if_pos o];exact e c,rfl⟩
     |false=>
      refine cJ g f [123] i ?_;cases J:f.is g [123]with
      |true=>
       obtain⟨c,t3⟩:=dL J;have t:=C.step i t3;have t1:=cM x c;have t2:=cM F c;obtain⟨o,j,m⟩:=ly t3;refine cP g f om ?_;refine Fp (H7 C W q [125] dc f.next t v.p5) Z (fun ax aw H n l p _ _ _ e=>?_);repeat refine b1 ?_
       refine a6 0 ⟨Z,Z,_,_,_,_,_,_,_,_,H,n,l.low,(fun E=>absurd c E),fun _=>?_,Z⟩;rw[nc,if_neg j,if_neg m,if_neg o,t1,if_neg dc,t2,if_neg dc,if_pos t3,hZ];exact eO.map (e c) (fun aE ae=>.mk .nil ae.1 ae.2)
      |false=>
       refine cJ g f [60] i ?_;cases K:f.is g [60]with
       |true=>
        obtain⟨c,t4⟩:=dL K;have t:=C.step i t4;have t1:=cM x c;have t2:=cM F c;have t3:=cM J c;have D:=G c;obtain⟨o,j,m⟩:=ly t4;refine cP g f om ?_;refine dT g C f.next 1 t ?_
        have u:=fv C (x:=f.next) (k:=1) dc t;have ad:=cY C (s:=[58]) u;refine cG g C _ [58] u ?_;refine W.call _ ad v.p5.word.expect _ _ (fun Y T S U X h V d H n l p e=>?_);intro aB;repeat refine b1 ?_
        refine cG g C H [62] n ?_;repeat refine b1 ?_
        refine a6 0 ⟨Z,Z,_,_,_,_,_,_,_,_,H.expect g [62],cY C n,l.low.expect,(fun E=>absurd c E),fun _=>?_,Z⟩;rw[nc,if_neg j,if_neg m,if_neg o,t1,if_neg dc,t2,if_neg dc,t3,if_neg dc,if_pos t4,R7];have ab:f.next=cu (f.p+1):=by rw[D];rfl
        have k:=eO.name g (f.p+1);rw[<-ab]at k;refine eO.bind k ((RS.stay.expect.trans p).trans .expect) (fun s aD an ak=>?_);refine eO.bind (eO.val an v.next.word p e) .expect (fun aq N I P=>?_);rw[I];exact eO.map (kc g N [62]) (fun _ _=>by rw[<-ak];exact .mk .nil .nil (.ps (.cons P .nil)))
       |false=>
        refine cJ g f [91] i ?_;cases Q:f.is g [91]with
        |true=>
         obtain⟨c,t5⟩:=dL Q;have t:=C.step i t5;have t1:=cM x c;have t2:=cM F c;have t3:=cM J c;have t4:=cM K c;obtain⟨o,j,m⟩:=ly t5;refine cP g f om ?_;refine(R6 C z W q).call f.next t v.p5 _ _ (fun Y T S U X h V d H n l p e=>?_)
         refine a6 0 ⟨Z,Z,_,_,_,_,_,_,_,_,H,n,l.low,(fun E=>absurd c E),fun _=>?_,Z⟩;rw[nc,if_neg j,if_neg m,if_neg o,t1,if_neg dc,t2,if_neg dc,t3,if_neg dc,t4,if_neg dc,if_pos t5];exact e c
        |false=>
         refine cJ g f [40] i ?_;cases r:f.is g [40]with
         |true=>
          obtain⟨c,t6⟩:=dL r;have t:=C.step i t6;have t1:=cM x c;have t2:=cM F c;have t3:=cM J c;have t4:=cM K c;have t5:=cM Q c;obtain⟨o,j,m⟩:=ly t6;have y:fb a b g f.p=Nl a b g (f.p+1):=by
           rw[nc,if_neg j,if_neg m,if_neg o,t1,if_neg dc,t2,if_neg dc,t3,if_neg dc,t4,if_neg dc,t5,if_neg dc,if_pos t6]
          refine cP g f om ?_;refine W.call f.next t v.p5 _ _ (fun Y T S U X h V d H n l p e=>?_)
          refine cJ g H [58] n ?_;cases O:H.is g [58]with
          |true=>
           obtain⟨ag,t7⟩:=dL O;have ai:=C.step n t7;refine cP g H om ?_;refine z H.next ai l.next _ _ (fun av aC aF az aA ap A aa ao L=>?_)
           intro au ay;repeat refine b1 ?_
           refine cG g C ap [41] A ?_;repeat refine b1 ?_
           refine a6 0 ⟨Z,Z,_,_,_,_,_,_,_,_,ap.expect g [41],cY C A,aa.low.expect,(fun E=>absurd c E),fun _=>?_,Z⟩;rw[y,Nl];refine eO.bind (e c) (fun E=>absurd ag E) (fun aq N I P=>?_);rw[I]at t7 L;have t7:cD (g.tok N) [58]=true:=t7;rw[if_pos t7];refine eO.bind (L Z) .expect (fun aG am ac af=>?_);rw[ac];exact eO.map (kc g am [41]) (fun _ _=>.mk (.ps (.cons af .nil) sm) .nil (.ps (.cons P .nil)))
          |false=>
           repeat refine b1 ?_
           refine cG g C H [41] n ?_;repeat refine b1 ?_
           refine a6 0 ⟨Z,Z,_,_,_,_,_,_,_,_,H.expect g [41],cY C n,l.low.expect,(fun E=>absurd c E),fun _=>?_,Z⟩;rw[y,Nl];refine eO.bind (e c) .expect (fun aq N I P=>?_);rw[I]at O⊢;have t7:cD (g.tok N) [58]=false:=cM O rfl;rw[if_neg (by rw[t7];decide)];exact eO.map (kc g N [41]) (fun _ _=>P)
         |false=>
          refine nA g f i ?_;refine a6 0 ⟨Z,Z,_,_,_,_,_,_,_,_,f.nU g,by rw[RS.nU,qY];exact i,v.nU,(fun E=>od E),fun c=>?_,rfl⟩;have j:=gX M c;have m:=gX R c;have o:=gX w c;have t1:=cM x c;have t2:=cM F c;have t3:=cM J c;have t4:=cM K c;have t5:=cM Q c;have t6:=cM r c;rw[nc,if_neg j,if_neg m,if_neg o,t1,if_neg dc,t2,if_neg dc,t3,if_neg dc,t4,if_neg dc,t5,if_neg dc,t6,if_neg dc,RS.nU,RS.fail,if_pos c];exact .bad dc
end Go.Proofs.YthlkhjchcjflkaaGreatDoor
