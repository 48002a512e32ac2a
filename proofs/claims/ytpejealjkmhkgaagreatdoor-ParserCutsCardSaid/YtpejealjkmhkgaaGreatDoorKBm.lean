/- Part of the proof. -/
import Derived.Test.YtpejealjkmhkgaaGreatDoorKBl
set_option linter.all false
set_option maxHeartbeats 16000000
set_option maxRecDepth 100000
open Int renaming ofNat->YL,ofNat_eq_natCast->Y1
open Nat renaming le_of_ble_eq_true->YM,le_refl->YO,zero_le->YU,beq->YZ
open List renaming length_cons->YN,eq_nil_of_length_eq_zero->YP,getElem?_eq_getElem->YQ,length_nil->YR,length_append->YS,map_append->YT,length_map->YV,take->YW,drop->YX,take_add_one->YY,take_of_length_le->Y0,map->Y2
open Bool renaming false_eq_true->Y3
namespace Go.Proofs.YtpejealjkmhkgaaGreatDoor
open Go.AM Go.VM
def XK(l:Rd)(n:PR (Fh×List Nat))(h:dC)(f:List V):Prop:=match n with
 |.ok k q=>f=ub l q/\∃i b,EO k.1 i/\C2 k.2 b/\h=.ret (.dV [.agg (i.map V.d),.d b])
 |.bad c e=>∃q,f=ub l q/\h=.eE (dt c e)
def WR(h:Rd)(f:PR (Fh×List Nat))(e:dC)(c:VS):Prop:=∃b,c=[.box b]/\cN e=true/\e5 0 b=true/\XK h f e b
variable{g x:Nat} {j:PR (Fh×List Nat)} {y:Rd} {v:VS}
theorem q1{b:Nat}(c:j=.bad x b):cP 1 (.eE (dt x b)) (dq y g::v) (WR y j):=by
 subst c;exact cP.drop 1 Z (by show(fG 1 (dq y g)&&ln 1 v 0)=true;rw[ln];rfl) rfl (cP.now rfl ⟨_,rfl,rfl,rfl,g,rfl,rfl⟩)
variable{a:dC->VS->Prop} {r:Nat->PR Ty} {u:Nat->PR Ex}
theorem tF(H:y.Wf){p:Nat}(t:eo r y p)(D:Good r y p)(f:ld cR u y p)(E:p<y.ts.length)(i:Nat)(h:nth v i=some (dq y p)) 
  (o:∀k n c,eS r u y p=.ok k c->rL k n->a (.ret (.agg (n.map V.d))) (v.set i (dq y c))) (F:∀b e c,eS r u y p=.bad b e->a (.eE (dt b e)) (v.set i (dq y c))):b1 C b7 us [.bp i 0] v a:=by
 refine b1.one (dN:=[.bp 0 0]) (P:=XI y (eS r u y p)) (JF H t D f E) i h Z Z Z (fun I G l=>?_);unfold XI at l;split at l
 ·rename_i k c e;obtain⟨rfl,n,q,rfl⟩:=l;exact o k n c e q
 ·rename_i b s e;obtain⟨c,rfl,rfl⟩:=l;exact F b s c e
def XL:Nat->Bool:=fun b=>YZ b 8||YZ b 19||YZ b 27||YZ b 38||YZ b 44
def XM(e:Rd)(c:List UInt8)(b:Nat×List sL):VS:=[dq e b.1,.box [cq [],.d .cn,.d .cn],.box [cq c,kV 3 2 (b.2.map fh),.d .cn],kO 2 (b.2.map fh)]
def WS(b:List Nat):Tm:=[(0,.bp 0 0),(2,.bp 1 0),(4,.bp 2 0),(5,kV 4 1 (b.map fun c=>[.int .i64 (YL c)]))]
def WT(h:Rd)(f:List UInt8)(b:D)(c:Nat×List (List D)×List Nat):VS:=[dq h c.1,.box [cq [],.d .cn,.d .cn],.box [cq f,.d b,kV 3 31 c.2.1],kO 31 c.2.1,kO 1 (c.2.2.map fun e=>[.int .i64 (YL e)])]
variable{d:List (List D)}
theorem nn.len{l:List kA}(e:nn l d):d.length=l.length:=by
 induction l generalizing d with
 |nil=>cases e;rfl
 |cons h l b=>cases e with|cons f c=>simp[b c]
variable{w:List D}
theorem nn.snoc{l:List kA}{p:kA}(h:nn l d)(b:rL p w):nn (l++[p]) (d++[w]):=by
 induction l generalizing d with
 |nil=>cases h;exact .cons b .nil
 |cons i l c=>cases h with|cons f e=>exact .cons f (c e)
def TQ(n:Nat):List D:=[.int .i64 (YL n)]
variable{m:Nat->Nat}
theorem TR(c:Nat)(or:List Nat)(e:Nat)(f:m g=x):some (V.ms x 1 0 ((or.map fun b=>([.int .i64 (YL b)]:List D)).length+1+1) ((or.map fun b=>([.int .i64 (YL b)]:List D)).length+1+1))=some (gJ m (kV g 1 (((c::or)++[e]).map fun b=>[.int .i64 (YL b)]))):=by
 subst f;rw[YT,lW];exact congrArg some (km _ 1 (TQ c) (or.map TQ) (TQ e))
theorem PW(b:Nat)(or:List Nat)(e:Nat):some (cL.row 1 (YW ((or.map fun c=>([.int .i64 (YL c)]:List D)).length+1) (YX 0 (Y2 (fun f=>Y2 V.d f) (TQ b::or.map fun c=>([.int .i64 (YL c)]:List D))))++[(TQ e).map V.d]))=some (dH m (kO 1 (((b::or)++[e]).map fun c=>[.int .i64 (YL c)]))):=by
 rw[YT];exact iB m 1 (TQ b) (or.map TQ) (TQ e)
theorem PX(f:List UInt8)(b:D)(d0:List D)(e:List (List D))(c:List D)(h:m g=x):some (cL.box [cq f,.d b,.ms x 31 0 (e.length+1+1) (e.length+1+1)])=some (dH m (.box [cq f,.d b,kV g 31 ((d0::e)++[c])])):=by
 subst h;show _=some (cL.box [cq f,.d b,gJ m (kV g 31 ((d0::e)++[c]))]);rw[lW,<-km _ 31 d0 e c]
theorem TS(c:List UInt8)(b:D)(l:List (List D))(e:Nat.blt x g=true):fG g (.box [cq c,.d b,kV x 31 l])=true:=by
 show(true&&(true&&(bd g (kV x 31 l)&&true)))=true;rw[ka 31 _ e];rfl
theorem qe(k:y.Wf){lo:Nat}(P:∀p E c,lo<=p->p<y.ts.length->r p=.ok E c->p<c/\c<y.ts.length)(ah:∀p E c,lo<=p->p<y.ts.length->u p=.ok E c->p<c/\c<y.ts.length){p c:Nat}{S:kA}(ap:lo<=p)(d:p<y.ts.length)(b:eS r u y p=.ok S c):p<c/\c<y.ts.length:=by
 have am:∀{s:List UInt8} {aw p c},p<y.ts.length->cu y [s] p=.ok aw c->p<c/\c<y.ts.length:=fun f b=>by
  have D:=cH _ _ _ b;have t:=c8 k _ _ _ f b;simp only[YN,YR]at D;exact⟨om,t⟩
 have M:∀{o:Type} {V:Nat->PR o} {s:List UInt8} {p c:Nat} {E:o},(∀i q,p<i->i<y.ts.length->V i=.ok E q->i<q/\q<y.ts.length)->p<y.ts.length->dA V y s p=.ok E c->p<c/\c<y.ts.length:=by
  intro o V s p c E ae f b;rw[dA]at b;split at b
  ·cases b
  ·rename_i ay Q af;obtain⟨G,x⟩:=am f af;obtain⟨ak,S⟩:=ae _ _ G x b;exact⟨om,S⟩
 have j:∀{s:List UInt8} {t0:Ty} {p c:Nat} {E:Bool×Ty},lo<=p->p<y.ts.length->lf r y s t0 p=.ok E c->p<=c/\c<y.ts.length:=by
  intro s t0 p c E n f b;rw[lf]at b;split at b
  ·rename_i C;obtain⟨ai,L,_⟩:=du b;obtain⟨G,x⟩:=P _ _ _ om (k.step f C) L;exact⟨om,x⟩
  ·cases b;exact⟨YO _,f⟩
 have B:∀{o:Type} {step:o->Nat->PR o} {G l:o} {p c:Nat},(∀G p l c,lo<=p->p<y.ts.length->step G p=.ok l c->p<c/\c<y.ts.length)->lo<=p->p<y.ts.length->hT step y G p=.ok l c->p<=c/\c<y.ts.length:=by
  intro o step G l p c C n f b;rw[hT]at b;split at b
  ·rename_i U;obtain⟨ak,S⟩:=PT k C _ _ _ _ _ om (k.step f U) b;exact⟨om,S⟩
  ·cases b;exact⟨YO _,f⟩
 have al:∀G p l c,lo<=p->p<y.ts.length->fW r y G p=.ok l c->p<c/\c<y.ts.length:=by
  intro G p l c n f b;rw[fW]at b;split at b
  ·cases b
  ·rename_i s Q C;obtain⟨ak,S⟩:=iM k dc f C;split at b
   ·rename_i U;obtain⟨ai,L,_⟩:=du b;obtain⟨E,an⟩:=P _ _ _ om (k.step S U) L;exact⟨om,an⟩
   ·cases b;exact⟨ak,S⟩
 rw[eS]at b;split at b
 ·cases b
 ·rename_i ao Y F;have g:p<=Y/\Y<y.ts.length:=by
   rw[kf]at F;split at F
   ·rename_i m;have R:=k.step d m;split at F
    ·rename_i a;have v:=k.step R a;obtain⟨s,C,_⟩:=du F;obtain⟨G,x⟩:=iM k dc v C;exact⟨om,x⟩
    ·cases F;exact⟨om,R⟩
   ·cases F;exact⟨YO _,d⟩
  obtain⟨g,O⟩:=g;split at b
  ·rename_i K;have n:=k.step O K;rw[hM]at b;split at b
   ·cases b
   ·rename_i ar Q D;obtain⟨z,H⟩:=iM k dc n D;split at b
    ·cases b
    ·rename_i ab aa t;obtain⟨A,N⟩:=B (fun G p l c _ f b=>MT k f b) om H t;split at b
     ·cases b
     ·rename_i E ac X;obtain⟨ad,W⟩:=j om N X;split at b
      ·cases b
      ·rename_i an au aj;obtain⟨aq,ag⟩:=j om W aj;obtain⟨ai,I,_⟩:=du b;obtain⟨w,J⟩:=M (fun i q T e h=>P _ _ _ om e h) ag I;exact⟨om,J⟩
  ·split at b
   ·rename_i K;have n:=k.step O K;rw[iX]at b;split at b
    ·cases b
    ·rename_i ar Q D;obtain⟨z,H⟩:=fB k n D;split at b
     ·cases b
     ·rename_i ab aa t;obtain⟨A,N⟩:=B al om H t;split at b
      ·cases b
      ·rename_i ai ac X;obtain⟨ad,W⟩:=M (fun i q T e h=>P _ _ _ om e h) N X;obtain⟨E,I,_⟩:=du b;obtain⟨w,J⟩:=M (fun i q T e h=>ah _ _ _ om e h) W I;exact⟨om,J⟩
   ·split at b
    ·rename_i K;have n:=k.step O K;rw[ie]at b;split at b
     ·cases b
     ·rename_i ax Q D;obtain⟨z,H⟩:=fB k n D;split at b
      ·cases b
      ·rename_i av aa t;obtain⟨A,N⟩:=M (fun i q _ e h=>(sQ k).lt _ _ _ e h) H t;obtain⟨E,I,_⟩:=du b;obtain⟨w,J⟩:=M (fun i q _ e h=>(sQ k).lt _ _ _ e h) N I;exact⟨om,J⟩
    ·cases b
variable{B:D} {z:List kA}
theorem Lf{s:List UInt8}{is:List sL}(e:j=.ok (⟨s,is,z⟩,[]) g)(c:A3 is B)(b:nn z []):cP 1 (.ret (.dV [.agg [cq s,.d B,.d .cn],.d .cn])) [dq y g,.box [cq s,.d B,.d .cn],.box [cq s,.d B,.d .cn],.gone,.gone] (WR y j):=by
 cases b;subst e;exact cP.drop 1 Z Z Z (cP.now Z ⟨_,Z,Z,Z,Z,[.str s,B,.cn],.cn,⟨B,.cn,c,.nil,Z⟩,.nil,Z⟩)
theorem Lg{c:List UInt8}{is:List sL}{d0:List D}{or:List Nat}(h:j=.ok (⟨c,is,z⟩,x::or) g)(f:A3 is B)(e:nn z (d0::d)):cP 1 (.ret (.dV [.agg [cq c,.d B,kV 3 31 (d0::d)],kV 4 1 ((x::or).map fun b=>[.int .i64 (YL b)])])) [dq y g,.box [cq c,.d B,kV 3 31 (d0::d)],.box [cq c,.d B,kV 3 31 (d0::d)],kO 31 (d0::d),kO 1 ((x::or).map fun b=>[.int .i64 (YL b)])] (WR y j):=by
 subst h;refine cP.freeze 3 (es:=31) (l:=d0::d) rfl (fZ _) (by repeat' (first|exact tv|exact fun _=>⟨rfl,by simp⟩|exact fun h=>absurd (show(4:Nat)=3 from h) dc|refine And.intro ?_ ?_)) (fun l=>?_);refine cP.freeze 4 (es:=1) (l:=(x::or).map fun b=>[.int .i64 (YL b)]) rfl (fZ _) (by repeat' (first|exact tv|exact fun _=>⟨rfl,by simp⟩|refine And.intro ?_ ?_)) (fun k=>?_);refine cP.forget 1 (cP.forget 2 ?_);refine cP.drop 1 Z Z Z (cP.now Z ⟨_,Z,Z,Z,Z,[.str c,B,.ps l (0*31) 31 (d.length+1) (YW (d.length+1) (YX 0 (d0::d)))],.ps k (0*1) 1 ((or.map fun b=>([.int .i64 (YL b)]:List D)).length+1) (YW ((or.map fun b=>([.int .i64 (YL b)]:List D)).length+1) (YX 0 ((x::or).map fun b=>[.int .i64 (YL b)]))),⟨B,_,f,?_,Z⟩,?_,Z⟩)
 ·rw[eH _ _ sm];exact .ps e (YO _)
 ·rw[eH _ _ sm];exact .ps
theorem V4{c n b:Nat}(h:c<=65537)(f:n<=1)(e:b<=2000):(c+n)*b<=eF/\c+n<=eF:=by
 unfold eF;constructor
 ·calc (c+n)*b<=65538*2000:=Nat.mul_le_mul om e
   _<=_:=dc
 ·omega
theorem UP(f:List UInt8)(c:sL)(b:List sL)(e:sL)(h:m g=x):some (cL.box [cq f,.ms x 2 0 ((b.map fh).length+1+1) ((b.map fh).length+1+1),.d .cn])=some (dH m (.box [cq f,kV g 2 (((c::b)++[e]).map fh),.d .cn])):=by
 subst h;rw[YT];show _=some (cL.box [cq f,gJ m (kV g 2 ((fh c::b.map fh)++[fh e])),.d .cn]);rw[lW,<-km _ 2 (fh c) (b.map fh) (fh e)]
theorem V5(b:List UInt8)(l:List sL)(c:Nat.blt x g=true):fG g (.box [cq b,kV x 2 (l.map fh),.d .cn])=true:=by
 show(true&&(bd g (kV x 2 (l.map fh))&&true))=true;rw[ka 2 _ c];rfl
theorem UQ(c:sL)(b:List sL)(e:sL):some (cL.row 2 (YW ((b.map fh).length+1) (YX 0 (Y2 (fun f=>Y2 V.d f) (fh c::b.map fh)))++[(fh e).map V.d]))=some (dH m (kO 2 (((c::b)++[e]).map fh))):=by
 rw[YT];exact iB m 2 (fh c) (b.map fh) (fh e)
theorem MU(az:y.Wf)(aL:y.Nm)(aK:y.ts.length<=65537){p:Nat}(ai:eo r y p)(aY:Good r y p)(ah:ld cR u y p)(bx:p<y.ts.length):b1 C b7 rm [.bp 0 0] [dq y p] (WR y (ow r u y p)):=by
 have bs:=az.len;refine cA XL (fun _=>Z) ?_;intro bv;refine gM az [109,111,100,117,108,101] bx bv _ 0 Z (fun be bg=>?_) (fun be bu=>?_)
 ·refine(vj az aL aK).call (p+1) bg 0 ?_ (fun s ag aX=>?_) (fun af aA ag aX=>?_)
  ·exact Z
  ·obtain⟨bD,bw⟩:=(vj az aL aK).lt _ _ _ bg aX;have V:ow r u y p=match eK y y.ts.length [] ag with
     |.bad bG bo=>.bad bG bo
     |.ok au e=>(fX r u y y.ts.length [] [] e).map fun l=>(⟨s,au,l.1⟩,l.2):=by
    simp only[ow,dA,cu,be,if_true,aX];rfl
   refine cl.less (eW:=[(0,.bp 0 0),(2,.bp 1 0),(4,.bp 2 0),(5,.d .cn)]) ⟨Z,Z,Z,Z,tv⟩ ?_;refine cl.gone ?_;refine cl.iter (fun _:Nat×List sL=>[(0,.bp 0 0),(2,.bp 1 0),(4,.bp 2 0),(5,.d .cn)]) (XM y s) (fun l=>y.ts.length-l.1)
    (fun l=>ag<=l.1/\l.1<y.ts.length/\l.2.length<=l.1/\∃ax,y.ts.length-l.1<=ax/\eK y y.ts.length [] ag=eK y ax l.2 l.1) ?_ (ag,[]) ⟨YO _,bw,YU _,_,by show y.ts.length-ag<=y.ts.length;omega,rfl⟩
   rintro⟨e,au⟩ ⟨aE,aD,aF,ax,aC,aB⟩;have bC:ag<=e:=aE;have aw:e<y.ts.length:=aD;have bh:au.length<=e:=aF;have bI:y.ts.length-e<=ax:=aC;have av:eK y y.ts.length [] ag=eK y ax au e:=aB;clear aE aD aF aC aB;obtain⟨ax,rfl⟩:∃aT,ax=aT+1:=⟨ax-1,om⟩;rw[eK]at av;refine cG y e (y.tok e) [105,109,112,111,114,116] (bZ aw) om 0 Z (fun bb=>?_) (fun bb=>?_)
   ·have aM:=az.step aw bb;rw[if_pos bb]at av;refine(vj az aL aK).call (e+1) aM 0 ?_ (fun aG bn aN=>?_) (fun af aA bn aN=>?_)
    ·exact Z
    ·obtain⟨bB,bl⟩:=(vj az aL aK).lt _ _ _ aM aN;intro bA;refine gM az [97,115] bl bA _ 0 ?_ (fun bc bf=>?_) (fun bc bu=>?_)
     ·exact Z
     ·refine nB az bf 0 ?_ (fun ak aj ba=>?_) (fun af aA aj ba=>?_)
      ·exact Z
      ·obtain⟨bE,aO⟩:=fB az bf ba;have am:fR y (e+1)=.ok ⟨aG,ak⟩ aj:=by simp only[fR,aN,dA,cu,bc,if_true,ba,PR.map]
       rw[am]at av;intro bH;rcases au with _|⟨ar,J⟩
       ·refine a1 Z (a1 ⟨YM Z,YM Z⟩ (a6 Z ?_));exact⟨(aj,[⟨aG,ak⟩]),⟨by show ag<=aj;omega,aO,by show 1<=aj;omega,ax,by show y.ts.length-aj<=ax;omega,av⟩,by show y.ts.length-aj<y.ts.length-e;omega,.pick 1 [0,1,2,5] ⟨rfl,rfl,rfl,rfl,tv⟩ rfl rfl rfl rfl rfl dc ⟨rfl,rfl,rfl,rfl,rfl,rfl,jy _ 2 [.str aG,.str ak],fO _ _ _,tv⟩,rfl,rfl⟩
       ·have br:(J.map fh).length+1<=4294967296:=by simp only[YN,YV]at bh⊢;omega
        refine a1 Z (a1 ⟨Z,Z,by simp,YO _,qS br (YO _) (YM rfl)⟩ (a6 rfl (a6 (jw _) ?_)));exact⟨(aj,(ar::J)++[(⟨aG,ak⟩:sL)]),⟨by show ag<=aj;omega,aO,by show((ar::J)++[(⟨aG,ak⟩:sL)]).length<=aj;simp only[YS,YN,YR]at bh⊢;omega,ax,by show y.ts.length-aj<=ax;omega,av⟩,by show y.ts.length-aj<y.ts.length-e;omega,.pick 1 [0,1,2,5] ⟨rfl,rfl,rfl,rfl,tv⟩ rfl rfl rfl rfl rfl dc ⟨rfl,rfl,rfl,rfl,UP s ar J ⟨aG,ak⟩ rfl,V5 _ _ rfl,UQ ar J ⟨aG,ak⟩,fO _ _ _,tv⟩,rfl,rfl⟩
      ·have am:fR y (e+1)=.bad af aA:=by simp only[fR,aN,dA,cu,bc,if_true,ba,PR.map]
       exact q1 (by rw[V,av,am])
     ·have am:fR y (e+1)=.bad (y.tok bn).off 3:=by simp only[fR,aN,dA,cu,bc,if_false,Y3,PR.map]
      exact q1 (by rw[V,av,am])
    ·have am:fR y (e+1)=.bad af aA:=by simp only[fR,aN]
     exact q1 (by rw[V,av,am])
   ·rw[if_neg (by rw[bb];decide)]at av;rw[av]at V;dsimp only at V;rcases au with _|⟨ar,J⟩
    ·refine cl.gone ?_;refine cF (eW:=WS []) (ii:=WT y s .cn (e,[],[])) (.same ⟨Z,Z,Z,Z,tv⟩ Z) ?_;refine cl.iter (fun l:Nat×List (List D)×List Nat=>WS l.2.2) (WT y s .cn) (fun l=>y.ts.length-l.1)
      (fun l=>e<=l.1/\l.1<y.ts.length/\l.2.1.length<=l.1/\l.2.2.length=l.2.1.length/\∃ax M,y.ts.length-l.1<=ax/\nn M l.2.1/\fX r u y y.ts.length [] [] e=fX r u y ax M l.2.2 l.1) ?_ (e,[],[]) ⟨YO _,aw,YU _,rfl,_,[],by show y.ts.length-e<=y.ts.length;omega,.nil,rfl⟩
     rintro⟨b,I,F⟩ ⟨aE,aD,aF,aC,f2,M,aB,aQ,aP⟩;have aM:e<=b:=aE;have f:b<y.ts.length:=aD;have ao:I.length<=b:=aF;have o:F.length=I.length:=aC;have bq:y.ts.length-b<=f2:=aB;have N:nn M I:=aQ;have i:fX r u y y.ts.length [] [] e=fX r u y f2 M F b:=aP;clear aE aD aF aC aB aQ aP;obtain⟨f2,rfl⟩:∃aT,f2=aT+1:=⟨f2-1,om⟩;rw[fX]at i;refine ei y b _ (bZ f) 0 Z ?_;apply aZ<;>intro aI
     ·have ap:(y.tok b).kind≠0:=fun bo=>by rw[bo]at aI;cases aI
      rw[if_pos ap]at i;rcases I with _|⟨d0,K⟩
      ·obtain rfl:F=[]:=YP o;refine ei y b _ (bZ f) 0 Z ?_;intro bm;refine a1 Z (a1 ⟨YM Z,YM Z⟩ (a6 Z ?_));repeat refine b6 ?_
       refine tF az (p:=b) ⟨fun k aJ ag aS=>ai.lt k aJ ag om,fun k aS=>ai.call k om⟩ (fun k aJ ag aS=>aY k aJ ag om) (ah.up om) f 0 ?_ (fun c bt h q al=>?_) (fun af aA h q=>?_)
       ·exact Z
       ·obtain⟨n,bk,bj,aW,aU,an,E,H,t,G,rfl⟩:=al;obtain⟨O,x,z,B,m,rfl⟩:=E.di;obtain⟨g,a,Q,S,d,rfl⟩:=H.di;obtain⟨ae,v,U,w,R,rfl⟩:=t.di;obtain⟨j,Y,X,W,P,A,T,ad,rfl⟩:=G.eight;obtain⟨aH,L⟩:=qe az ai.lt ah.lt om f q;rw[q]at i;dsimp only at i;repeat refine b6 ?_
        intro bi;refine b8 ?_;refine a1 Z (a1 ⟨YM Z,YM Z⟩ (a6 Z ?_));repeat refine b6 ?_
        exact⟨(h,[mG c.k c.n c.exp c.yB c.note n [.int .i64 (YL O),.str x,.str z,B,m] [.int .i64 (YL g),.str a,.str Q,S,d] [.int .i64 (YL ae),.str v,.str U,w,R] [.int .i64 (YL j),.str Y,.str X,.str W,.int .i64 P,A,T,ad] c.m c.tg],[(y.tok b).off]),⟨by show e<=h;omega,L,by show 1<=h;omega,rfl,f2,M++[c],by show y.ts.length-h<=f2;omega,N.snoc ⟨_,_,_,_,_,an,E,H,t,G,rfl⟩,i⟩,by show y.ts.length-h<y.ts.length-b;omega,.pick 1 [0,1,2,6,5] ⟨rfl,rfl,rfl,rfl,tv⟩ rfl rfl rfl rfl rfl dc ⟨rfl,rfl,rfl,rfl,rfl,rfl,jy _ 31 (mG c.k c.n c.exp c.yB c.note n [.int .i64 (YL O),.str x,.str z,B,m] [.int .i64 (YL g),.str a,.str Q,S,d] [.int .i64 (YL ae),.str v,.str U,w,R] [.int .i64 (YL j),.str Y,.str X,.str W,.int .i64 P,A,T,ad] c.m c.tg),fO _ _ _,jy _ 1 [.int .i64 (YL (y.tok b).off)],fO _ _ _,tv⟩,rfl,rfl⟩
       ·exact q1 (by simp only[V,i,q,PR.map])
      ·obtain⟨aq,or,rfl⟩:∃ak ay,F=ak::ay:=by cases F with
        |nil=>simp at o
        |cons ak ay=>exact⟨ak,ay,rfl⟩
       have aV:K.length+1<=65537:=by simp only[YN]at ao;omega
       have aR:(or.map fun bz=>([.int .i64 (YL bz)]:List D)).length+1<=4294967296:=by simp only[YN,YV]at o ao⊢;omega
       refine ei y b _ (bZ f) 0 Z ?_;intro bm;refine a1 Z (a1 ⟨Z,Z,by simp,YO _,qS aR (YO _) (YM rfl)⟩ (a6 rfl (a6 (jw _) ?_)));repeat refine b6 ?_
       refine tF az (p:=b) ⟨fun k aJ ag aS=>ai.lt k aJ ag om,fun k aS=>ai.call k om⟩ (fun k aJ ag aS=>aY k aJ ag om) (ah.up om) f 0 ?_ (fun c bt h q al=>?_) (fun af aA h q=>?_)
       ·exact Z
       ·obtain⟨n,bk,bj,aW,aU,an,E,H,t,G,rfl⟩:=al;obtain⟨O,x,z,B,m,rfl⟩:=E.di;obtain⟨g,a,Q,S,d,rfl⟩:=H.di;obtain⟨ae,v,U,w,R,rfl⟩:=t.di;obtain⟨j,Y,X,W,P,A,T,ad,rfl⟩:=G.eight;obtain⟨aH,L⟩:=qe az ai.lt ah.lt om f q;rw[q]at i;dsimp only at i;repeat refine b6 ?_
        intro bi;refine b8 ?_;refine a1 Z (a1 ⟨Z,Z,by simp,YO _,V4 aV (YO _) (YM rfl)⟩ (a6 rfl (a6 (jw _) ?_)));repeat refine b6 ?_
        exact⟨(h,(d0::K)++[mG c.k c.n c.exp c.yB c.note n [.int .i64 (YL O),.str x,.str z,B,m] [.int .i64 (YL g),.str a,.str Q,S,d] [.int .i64 (YL ae),.str v,.str U,w,R] [.int .i64 (YL j),.str Y,.str X,.str W,.int .i64 P,A,T,ad] c.m c.tg],(aq::or)++[(y.tok b).off]),⟨by show e<=h;omega,L,by show((d0::K)++[_]).length<=h;simp only[YS,YN,YR]at ao⊢;omega,by show((aq::or)++[_]).length=((d0::K)++[_]).length;simp only[YS,YN,YR]at o⊢;omega,f2,M++[c],by show y.ts.length-h<=f2;omega,N.snoc ⟨_,_,_,_,_,an,E,H,t,G,rfl⟩,i⟩,by show y.ts.length-h<y.ts.length-b;omega,.pick 1 [0,1,2,6,5] ⟨rfl,rfl,rfl,TR aq or (y.tok b).off rfl,tv⟩ rfl rfl rfl rfl rfl dc ⟨rfl,rfl,rfl,rfl,PX s _ d0 K (mG c.k c.n c.exp c.yB c.note n [.int .i64 (YL O),.str x,.str z,B,m] [.int .i64 (YL g),.str a,.str Q,S,d] [.int .i64 (YL ae),.str v,.str U,w,R] [.int .i64 (YL j),.str Y,.str X,.str W,.int .i64 P,A,T,ad] c.m c.tg) rfl,TS s _ _ rfl,iB _ 31 d0 K (mG c.k c.n c.exp c.yB c.note n [.int .i64 (YL O),.str x,.str z,B,m] [.int .i64 (YL g),.str a,.str Q,S,d] [.int .i64 (YL ae),.str v,.str U,w,R] [.int .i64 (YL j),.str Y,.str X,.str W,.int .i64 P,A,T,ad] c.m c.tg),fO _ _ _,PW aq or (y.tok b).off,fO _ _ _,tv⟩,rfl,rfl⟩
       ·exact q1 (by simp only[V,i,q,PR.map])
     ·have ap:(y.tok b).kind=0:=k6 aI;rw[if_neg (by rw[ap];decide)]at i;rcases I with _|⟨d0,K⟩
      ·obtain rfl:F=[]:=YP o;exact Lf (is:=[]) (by simp only[V,i,PR.map]) .nil N
      ·obtain⟨aq,or,rfl⟩:∃ak ay,F=ak::ay:=by cases F with
        |nil=>simp at o
        |cons ak ay=>exact⟨ak,ay,rfl⟩
       refine Lg (is:=[]) (by simp only[V,i,PR.map]) .nil N
    ·refine pu 3 2 [(0,.bp 0 0),(2,.bp 1 0),(4,.bp 2 0),(5,.d .cn)] (es:=2) (l:=(ar::J).map fh) Z Z (fZ _) ⟨Z,Z,Z,Z,tv⟩ ⟨tv,tv,tv,tv,tv⟩ ⟨tv,fun _=>⟨Z,by simp⟩,tv,tv⟩ (fun ay=>?_);refine cl.gone ?_;refine cF (eW:=WS []) (ii:=WT y s (.ps ay (0*2) 2 ((J.map fh).length+1) (YW ((J.map fh).length+1) (YX 0 ((ar::J).map fh)))) (e,[],[])) (.same ⟨Z,Z,Z,Z,tv⟩ Z) ?_;refine cl.iter (fun l:Nat×List (List D)×List Nat=>WS l.2.2) (WT y s (.ps ay (0*2) 2 ((J.map fh).length+1) (YW ((J.map fh).length+1) (YX 0 ((ar::J).map fh))))) (fun l=>y.ts.length-l.1)
      (fun l=>e<=l.1/\l.1<y.ts.length/\l.2.1.length<=l.1/\l.2.2.length=l.2.1.length/\∃ax M,y.ts.length-l.1<=ax/\nn M l.2.1/\fX r u y y.ts.length [] [] e=fX r u y ax M l.2.2 l.1) ?_ (e,[],[]) ⟨YO _,aw,YU _,rfl,_,[],by show y.ts.length-e<=y.ts.length;omega,.nil,rfl⟩
     rintro⟨b,I,F⟩ ⟨aE,aD,aF,aC,f2,M,aB,aQ,aP⟩;have aM:e<=b:=aE;have f:b<y.ts.length:=aD;have ao:I.length<=b:=aF;have o:F.length=I.length:=aC;have bq:y.ts.length-b<=f2:=aB;have N:nn M I:=aQ;have i:fX r u y y.ts.length [] [] e=fX r u y f2 M F b:=aP;clear aE aD aF aC aB aQ aP;obtain⟨f2,rfl⟩:∃aT,f2=aT+1:=⟨f2-1,om⟩;rw[fX]at i;refine ei y b _ (bZ f) 0 Z ?_;apply aZ<;>intro aI
     ·have ap:(y.tok b).kind≠0:=fun bo=>by rw[bo]at aI;cases aI
      rw[if_pos ap]at i;rcases I with _|⟨d0,K⟩
      ·obtain rfl:F=[]:=YP o;refine ei y b _ (bZ f) 0 Z ?_;intro bm;refine a1 Z (a1 ⟨YM Z,YM Z⟩ (a6 Z ?_));repeat refine b6 ?_
       refine tF az (p:=b) ⟨fun k aJ ag aS=>ai.lt k aJ ag om,fun k aS=>ai.call k om⟩ (fun k aJ ag aS=>aY k aJ ag om) (ah.up om) f 0 ?_ (fun c bt h q al=>?_) (fun af aA h q=>?_)
       ·exact Z
       ·obtain⟨n,bk,bj,aW,aU,an,E,H,t,G,rfl⟩:=al;obtain⟨O,x,z,B,m,rfl⟩:=E.di;obtain⟨g,a,Q,S,d,rfl⟩:=H.di;obtain⟨ae,v,U,w,R,rfl⟩:=t.di;obtain⟨j,Y,X,W,P,A,T,ad,rfl⟩:=G.eight;obtain⟨aH,L⟩:=qe az ai.lt ah.lt om f q;rw[q]at i;dsimp only at i;repeat refine b6 ?_
        intro bi;refine b8 ?_;refine a1 Z (a1 ⟨YM Z,YM Z⟩ (a6 Z ?_));repeat refine b6 ?_
        exact⟨(h,[mG c.k c.n c.exp c.yB c.note n [.int .i64 (YL O),.str x,.str z,B,m] [.int .i64 (YL g),.str a,.str Q,S,d] [.int .i64 (YL ae),.str v,.str U,w,R] [.int .i64 (YL j),.str Y,.str X,.str W,.int .i64 P,A,T,ad] c.m c.tg],[(y.tok b).off]),⟨by show e<=h;omega,L,by show 1<=h;omega,rfl,f2,M++[c],by show y.ts.length-h<=f2;omega,N.snoc ⟨_,_,_,_,_,an,E,H,t,G,rfl⟩,i⟩,by show y.ts.length-h<y.ts.length-b;omega,.pick 1 [0,1,2,6,5] ⟨rfl,rfl,rfl,rfl,tv⟩ rfl rfl rfl rfl rfl dc ⟨rfl,rfl,rfl,rfl,rfl,rfl,jy _ 31 (mG c.k c.n c.exp c.yB c.note n [.int .i64 (YL O),.str x,.str z,B,m] [.int .i64 (YL g),.str a,.str Q,S,d] [.int .i64 (YL ae),.str v,.str U,w,R] [.int .i64 (YL j),.str Y,.str X,.str W,.int .i64 P,A,T,ad] c.m c.tg),fO _ _ _,jy _ 1 [.int .i64 (YL (y.tok b).off)],fO _ _ _,tv⟩,rfl,rfl⟩
       ·exact q1 (by simp only[V,i,q,PR.map])
      ·obtain⟨aq,or,rfl⟩:∃ak ay,F=ak::ay:=by cases F with
        |nil=>simp at o
        |cons ak ay=>exact⟨ak,ay,rfl⟩
       have aV:K.length+1<=65537:=by simp only[YN]at ao;omega
       have aR:(or.map fun bz=>([.int .i64 (YL bz)]:List D)).length+1<=4294967296:=by simp only[YN,YV]at o ao⊢;omega
       refine ei y b _ (bZ f) 0 Z ?_;intro bm;refine a1 Z (a1 ⟨Z,Z,by simp,YO _,qS aR (YO _) (YM rfl)⟩ (a6 rfl (a6 (jw _) ?_)));repeat refine b6 ?_
       refine tF az (p:=b) ⟨fun k aJ ag aS=>ai.lt k aJ ag om,fun k aS=>ai.call k om⟩ (fun k aJ ag aS=>aY k aJ ag om) (ah.up om) f 0 ?_ (fun c bt h q al=>?_) (fun af aA h q=>?_)
       ·exact Z
       ·obtain⟨n,bk,bj,aW,aU,an,E,H,t,G,rfl⟩:=al;obtain⟨O,x,z,B,m,rfl⟩:=E.di;obtain⟨g,a,Q,S,d,rfl⟩:=H.di;obtain⟨ae,v,U,w,R,rfl⟩:=t.di;obtain⟨j,Y,X,W,P,A,T,ad,rfl⟩:=G.eight;obtain⟨aH,L⟩:=qe az ai.lt ah.lt om f q;rw[q]at i;dsimp only at i;repeat refine b6 ?_
        intro bi;refine b8 ?_;refine a1 Z (a1 ⟨Z,Z,by simp,YO _,V4 aV (YO _) (YM rfl)⟩ (a6 rfl (a6 (jw _) ?_)));repeat refine b6 ?_
        exact⟨(h,(d0::K)++[mG c.k c.n c.exp c.yB c.note n [.int .i64 (YL O),.str x,.str z,B,m] [.int .i64 (YL g),.str a,.str Q,S,d] [.int .i64 (YL ae),.str v,.str U,w,R] [.int .i64 (YL j),.str Y,.str X,.str W,.int .i64 P,A,T,ad] c.m c.tg],(aq::or)++[(y.tok b).off]),⟨by show e<=h;omega,L,by show((d0::K)++[_]).length<=h;simp only[YS,YN,YR]at ao⊢;omega,by show((aq::or)++[_]).length=((d0::K)++[_]).length;simp only[YS,YN,YR]at o⊢;omega,f2,M++[c],by show y.ts.length-h<=f2;omega,N.snoc ⟨_,_,_,_,_,an,E,H,t,G,rfl⟩,i⟩,by show y.ts.length-h<y.ts.length-b;omega,.pick 1 [0,1,2,6,5] ⟨rfl,rfl,rfl,TR aq or (y.tok b).off rfl,tv⟩ rfl rfl rfl rfl rfl dc ⟨rfl,rfl,rfl,rfl,PX s _ d0 K (mG c.k c.n c.exp c.yB c.note n [.int .i64 (YL O),.str x,.str z,B,m] [.int .i64 (YL g),.str a,.str Q,S,d] [.int .i64 (YL ae),.str v,.str U,w,R] [.int .i64 (YL j),.str Y,.str X,.str W,.int .i64 P,A,T,ad] c.m c.tg) rfl,TS s _ _ rfl,iB _ 31 d0 K (mG c.k c.n c.exp c.yB c.note n [.int .i64 (YL O),.str x,.str z,B,m] [.int .i64 (YL g),.str a,.str Q,S,d] [.int .i64 (YL ae),.str v,.str U,w,R] [.int .i64 (YL j),.str Y,.str X,.str W,.int .i64 P,A,T,ad] c.m c.tg),fO _ _ _,PW aq or (y.tok b).off,fO _ _ _,tv⟩,rfl,rfl⟩
       ·exact q1 (by simp only[V,i,q,PR.map])
     ·have ap:(y.tok b).kind=0:=k6 aI;rw[if_neg (by rw[ap];decide)]at i;rcases I with _|⟨d0,K⟩
      ·obtain rfl:F=[]:=YP o;exact Lf (is:=(ar::J)) (by simp only[V,i,PR.map]) (by rw[eH _ _ sm];exact .ps sm) N
      ·obtain⟨aq,or,rfl⟩:∃ak ay,F=ak::ay:=by cases F with
        |nil=>simp at o
        |cons ak ay=>exact⟨ak,ay,rfl⟩
       refine Lg (is:=(ar::J)) (by simp only[V,i,PR.map]) (by rw[eH _ _ sm];exact .ps sm) N
  ·exact q1 (by simp only[ow,dA,cu,be,if_true,aX])
 ·exact q1 (by simp only[ow,dA,cu,be,if_false,Y3])
def Ex.k:Ex->Nat|.mk b _ _ _ _ _ _ _=>b
def Ex.kids:Ex->List Ex|.mk _ _ _ _ _ _ _ b=>b
def ox:Ex->List Ty
 |.mk c _ _ _ _ types b _=>types++(if c=8 then b.map iV.ty else [])
mutual
def da:Ex->Nat
 |.mk k _ _ _ _ types labels kids=>1+cC (types++(if k=8 then labels.map iV.ty else []))+cS kids
def cS:List Ex->Nat
 |[]=>0
 |e::l=>da e+cS l
end
mutual
def q2:Ex->Nat
 |.mk _ _ _ _ _ _ _ kids=>gR kids+1
def gR:List Ex->Nat
 |[]=>0
 |e::l=>max (q2 e) (gR l)
end
theorem iN(b:Ex):da b=1+cC (ox b)+cS b.kids:=by cases b;rw[da,ox,Ex.kids]
theorem C9(b:Ex):q2 b=gR b.kids+1:=by cases b;rw[q2,Ex.kids]
theorem kK(b:Ex):0<da b:=by rw[iN];omega
theorem l2(c b:List Ex):cS (c++b)=cS c+cS b:=by
 induction c with
 |nil=>simp[cS]
 |cons f c e=>simp only[List.cons_append,cS,e];omega
theorem Hd(c b:List Ex):gR (c++b)=max (gR c) (gR b):=by
 induction c with
 |nil=>simp[gR]
 |cons f c e=>simp only[List.cons_append,gR,e];omega
theorem q3(l:List Ex):l.length<=cS l:=by
 induction l with
 |nil=>simp
 |cons c l b=>have:=kK c;simp only[YN,cS];omega
theorem vl{l:List Ex}{t:Ex}(h:t∈l):da t<=cS l:=by
 induction l with
 |nil=>simp at h
 |cons c l b=>
  rcases List.mem_cons.1 h with rfl|h
  ·simp only[cS];omega
  ·have:=b h;simp only[cS];omega
theorem MV(n:Nat):∀b:Ex,da b<=n->q2 b<=da b:=by
 induction n with
 |zero=>intro b i;have:=kK b;omega
 |succ n f=>
  intro b i;rw[iN]at i⊢;rw[C9];have:∀c:List Ex,cS c<=n->gR c<=cS c:=by
   intro c;induction c with
   |nil=>intro _;simp[gR]
   |cons k c e=>
    intro h;simp only[cS,gR]at h⊢;have:=f k om;have:=e om;omega
  have:=this _ (by omega:cS b.kids<=n);omega
theorem JG(l:List Ex):gR l<=cS l:=by
 induction l with
 |nil=>simp[gR]
 |cons c l b=>have:=MV _ c (YO _);simp only[gR,cS];omega
theorem EV{l:List Ex}(b:g<l.length):gR (l.take (g+1))=max (gR (l.take g)) (q2 l[g]):=by
 rw[YY,YQ b,Hd];simp[gR]
theorem yF{l:List Ex}(b:g<l.length):cS (l.take (g+1))=cS (l.take g)+da l[g]:=by
 rw[YY,YQ b,l2];simp[cS]
theorem sV(l:List Ex)(b:Nat):cS (l.take b)<=cS l:=by
 have c:=l2 (l.take b) (l.drop b);rw[List.take_append_drop]at c;omega
theorem iL.get{l:List Ex}(n:iL l d){i:Nat}(b:i<l.length):∃c,d[i]?=some c/\ly l[i] c:=by
 induction l generalizing d i with
 |nil=>simp at b
 |cons k l e=>
  cases n with
  |cons h f=>
   cases i with
   |zero=>exact⟨_,rfl,h⟩
   |succ i=>obtain⟨c,k,o⟩:=e f (i:=i) (by simpa using b);exact⟨c,by simpa using k,o⟩
theorem ly.UR{h:Ex}{k n i:List UInt8}{b:Int}{f c:D}(e:ly h [.int .i64 (YL g),.str k,.str n,.str i,.int .i64 b,B,f,c]):ij h.kids c/\h.k=g:=by
 cases e with|mk _ _ e=>exact⟨e,rfl⟩
theorem EW(n:Nat)(P:∀(t:Ex) (k:List D),da t<=n->ly t k->∀{F:VS} {Q:dC->VS->Prop},Q (.ret (b3 (q2 t))) F->b1 C b7 kw [.agg (k.map V.d)] F Q) 
  (t:Ex) (k:List D) (r:da t<=n+1) (y:n<4294967295) (l:ly t k):b1 C b7 kw [.agg (k.map V.d)] [] fun j E=>E=[]/\j=.ret (b3 (q2 t)):=by
 obtain⟨v,w,H,K,p,M,N,u,rfl⟩:=l.eight;have W:=iN t;refine cz ?_;rw[C9];have s:=l.UR.1;have o:cS t.kids<=n:=om;generalize t.kids=b at s o;have R:=q3 b;cases s with
 |nil=>
  refine cl.loop ?_;refine a7 0 ⟨Z,Z⟩
 |ps a=>
  rename_i J I f h;have q:=a.len;refine cl.less (eW:=[(3,b3 0),(7,.d (.ps J I 8 f h)),(8,b3 b.length),(9,b3 0)]) ⟨Z,Z,int_eq (by rw[q]),rfl,tv⟩ ?_;refine cl.iter (fun e:Nat=>[(3,b3 (gR (b.take e))),(7,.d (.ps J I 8 f h)),(8,b3 b.length),(9,b3 e)]) (fun _=>[.box [b3 v,cq w,cq H,cq K,.d (.int .i64 p),.d M,.d N,.d (.ps J I 8 f h)]]) (fun e=>b.length-e) (fun e=>e<=b.length) ?_ 0 (YU _);intro e x;apply aZ<;>intro G
  ·have c:e<b.length:=fF G;obtain⟨k,O,i⟩:=a.get c;refine b0 Z ?_;obtain⟨z,m,T,U,L,d,Y,S,rfl⟩:=i.eight;refine b4 _ (by rw[cv];exact O) ?_;have g:=vl (List.getElem_mem c);refine P b[e] _ om i ?_;refine⟨e+1,c,by show b.length-(e+1)<b.length-e;omega,.drop 1 ⟨int_eq ?_,rfl,rfl,int_eq (cp om),tv⟩ rfl rfl rfl rfl rfl rfl rfl,rfl,rfl⟩;rw[EV c];simp only[Y1];omega
  ·have c:b.length<=e:=dR G;rw[Y0 c];have X:=JG b;refine a7 0 ⟨Z,congrArg dC.ret (congrArg V.d (congrArg (D.int .i64) (cp om)))⟩
theorem He:∀(f:Nat) (b:Ex) (e:List D),f<4294967295->da b<=f->ly b e->∀{c:VS} {i:dC->VS->Prop},i (.ret (b3 (q2 b))) c->b1 C b7 kw [.agg (e.map V.d)] c i:=by
 intro f;induction f with
 |zero=>intro b e _ q;have:=kK b;omega
 |succ f o=>
  intro b e H q h c i l;obtain⟨I,J,s,E,p,F,G,t,rfl⟩:=h.eight;exact cQ (EW f (fun b e n k=>o b e om n k) b _ q om h) Z Z l
theorem py.get{l:List iV}(n:py l d){i:Nat}(b:i<l.length):∃c,d[i]?=some (Jg l[i] c)/\gK l[i].ty c:=by
 induction l generalizing d i with
 |nil=>simp at b
 |cons k l e=>
  cases n with
  |cons h f=>
   cases i with
   |zero=>exact⟨_,rfl,h⟩
   |succ i=>obtain⟨c,k,o⟩:=e f (i:=i) (by simpa using b);exact⟨c,by simpa using k,o⟩
def tG(i:Nat)(k n h:List UInt8)(b:Int)(e f c:D):List V:=[b3 i,cq k,cq n,cq h,.d (.int .i64 b),.d e,.d f,.d c]
def Rn(l:List iV):List Ty:=l.map iV.ty
theorem PY{l:List iV}(b:g<l.length):Rn (l.take (g+1))=Rn (l.take g)++[l[g].ty]:=by
 unfold Rn;rw[YY,YQ b,YT];rfl
def V6:Nat->Bool:=fun b=>YZ b 22
def XN(c:List V)(b:List (List D)):VS:=[.box c,kO 5 b]
theorem MW(N:Nat)(aa n q:List UInt8)(I:Int)(S g U:D)(types:List Ty)(b:List iV)(V:ib types S)(x:fK b g)(z:N=8->types=[])(ac:types.length+b.length<4294967296):
  b1 C b7 qI [.agg (tG N aa n q I S g U)] [] fun t d=>d=[]/\cN t=true/\∃y,Ob (types++(if N=8 then Rn b else [])) y/\t=.ret (.d y):=by
 refine cA V6 (fun _=>Z) ?_;refine b9 ?_;by_cases s:N=8
 ·have k:decide (YL N=8)=true:=by rw[s];exact decide_eq_true rfl
  have:=z s;subst this;rw[if_pos s];have a:S=.cn:=by
   cases V with
   |nil=>rfl
   |ps v p=>cases v;exact absurd rfl p
  subst a;refine a8 k ?_;cases x with
  |nil=>
   refine cl.loop ?_;refine a7 0 ⟨Z,Z,.cn,.nil,Z⟩
  |ps W=>
   rename_i R P f h;have X:=W.len;refine cl.gone ?_;refine cl.less (eW:=[(3,kV 1 5 []),(13,.d (.ps R P 8 f h)),(14,b3 b.length),(15,b3 0)]) ⟨Z,Z,int_eq (by rw[X]),rfl,tv⟩ ?_;refine cl.iter (fun q:Nat×List (List D)=>[(3,kV 1 5 q.2),(13,.d (.ps R P 8 f h)),(14,b3 b.length),(15,b3 q.1)]) (fun ab=>XN (tG N aa n q I .cn (.ps R P 8 f h) U) ab.2) (fun q=>b.length-q.1)
    (fun q=>q.1<=b.length/\eX (Rn (b.take q.1)) q.2) ?_ (0,[]) ⟨YU _,by exact .nil⟩
   rintro⟨o,l⟩ ⟨j,c⟩;have j:o<=b.length:=j;have c:eX (Rn (b.take o)) l:=c;have L:=c.len;rw[Rn,YV,List.length_take]at L;apply aZ<;>intro u
   ·have e:o<b.length:=fF u;obtain⟨y,A,K⟩:=W.get e;obtain⟨E,H,tn,F,G,rfl⟩:=K.di;have i:eX (Rn (b.take (o+1))) (l++[[.int .i64 (YL E),.str H,.str tn,F,G]]):=by rw[PY e];exact c.snoc K
    refine b0 Z ?_;refine b4 (Jg b[o] _) (by rw[cv];exact A) ?_;rcases l with _|⟨r,t⟩
    ·intro w;refine a1 Z (a1 ⟨YM Z,YM Z⟩ ?_);refine⟨(o+1,_),⟨e,i⟩,by show b.length-(o+1)<b.length-o;omega,?_,rfl,rfl⟩;exact .pick 1 [0,3] ⟨Z,Z,Z,int_eq (cp om),tv⟩ Z Z Z Z Z dc ⟨Z,Z,jy _ 5 [.int .i64 (YL E),.str H,.str tn,F,G],fO _ _ _,tv⟩
    ·intro w;have Y:t.length+1<=4294967296:=by simp only[YN]at L;omega
     refine a1 Z (a1 ⟨Z,Z,by simp,YO _,A8 Y⟩ ?_);refine a6 Z (a6 (fg (t.length+1)) ?_);refine⟨(o+1,_),⟨e,i⟩,by show b.length-(o+1)<b.length-o;omega,?_,rfl,rfl⟩;exact .pick 1 [0,3] ⟨congrArg some (km 3 5 r t [.int .i64 (YL E),.str H,.str tn,F,G]),Z,Z,int_eq (cp om),tv⟩ Z Z Z Z Z dc ⟨Z,Z,iB _ 5 r t [.int .i64 (YL E),.str H,.str tn,F,G],fO _ _ _,tv⟩
   ·have e:b.length<=o:=dR u;rw[Y0 e]at c;rcases l with _|⟨r,t⟩
    ·have Q:Rn b=[]:=YP c.len.symm;refine a7 0 ⟨Z,Z,.cn,by rw[Q];exact .nil,rfl⟩
    ·exact sN 0 (t.length+1) Z Z c
 ·have k:decide (YL N=8)=false:=decide_eq_false fun r=>s (by simp only[Y1]at r;omega);rw[if_neg s,List.append_nil];cases V with
  |nil=>
   refine a6 k ?_;refine a7 0 ⟨Z,Z,.cn,.nil,Z⟩
  |ps v p=>
   rename_i ae ad B J;cases J with
   |nil=>exact absurd rfl p
   |cons T O=>
    have m:=v.len;have M:O.length+1<4294967296:=by simp only[YN]at m;omega
    refine a1 Z (a1 ⟨Z,Z,YO _,YO _,C4 T O M⟩ ?_);refine a6 Z (a6 Z ?_);refine a6 k ?_;refine sN (els:=T::O) 1 _ sm ?_ (by simpa using v);exact Z
theorem Hf(i:Ex)(f:List D)(p:ly i f)(F:∀h o n l e types b c,i=.mk h o n l e types b c->h=8->types=[])(K:cC (ox i)<4294967296)(k:∀h o n l e types b c,i=.mk h o n l e types b c->types.length+b.length<4294967296)(t:∀f,Ob (ox i) f->a (.ret (.d f)) v):b1 C b7 qI [.agg (f.map V.d)] v a:=by
 cases p with
 |mk q E J=>
  rename_i h o n l e types b c G H s;exact b1.closed (P:=fun I=>∃f,Ob (types++(if h=8 then Rn b else [])) f/\I=.ret (.d f)) (MW h o n l e G H s types b q E (F _ _ _ _ _ _ _ _ rfl) (k _ _ _ _ _ _ _ _ rfl)) rfl (fun I ⟨f,L,i⟩=>by rw[i];exact t f L)
abbrev lw(l:iV)(b:List D):V:=.agg ((Jg l b).map V.d)
variable{A:List V}
theorem MX(l:(C.ff.get g).isSome=true)(f:D)(b:List iV)(t:fK b f)(L:b.length<4294967296) 
  (q:∀(p:Nat) (P:p<b.length) (s:List D),gK b[p].ty s->∀{a:dC->VS->Prop},a (.ret (ct false)) v->b1 C b7 g (lw b[p] s::A) v a) (n:a (.ret (.d (.int .i64 (-1)))) v):b1 C b7 mB [.d f,.fn g [] A] v a:=by
 refine b9 ?_;cases t with
 |nil=>
  refine cl.loop ?_;exact n
 |ps I=>
  rename_i H G h i;have o:=I.len;refine cl.less (eW:=[(0,.d (.ps H G 8 h i)),(1,.fn g [] A),(7,b3 b.length),(8,b3 0)]) ⟨Z,Z,int_eq (by rw[o]),rfl,tv⟩ ?_;refine cl.iter (fun e:Nat=>[(0,.d (.ps H G 8 h i)),(1,.fn g [] A),(7,b3 b.length),(8,b3 e)]) (fun _=>v) (fun e=>b.length-e) (fun e=>e<=b.length) ?_ 0 (YU _);intro e N;apply aZ<;>intro F
  ·have c:e<b.length:=fF F;obtain⟨s,E,k⟩:=I.get c;obtain⟨J,O,tn,K,M,rfl⟩:=k.di;refine b0 Z ?_;refine b4 _ (by rw[cv];exact E) ?_;refine a8 l ?_;refine q e c _ k ?_;refine⟨e+1,c,by show b.length-(e+1)<b.length-e;omega,.same ⟨rfl,rfl,rfl,int_eq (cp om),tv⟩ rfl,rfl,rfl⟩
  ·exact n
theorem li(c:(C.ff.get g).isSome=true)(f:D)(b:List iV)(e:fK b f)(i:b.length<4294967296) 
  (l:∀(k:Nat) (o:k<b.length) (n:List D),gK b[k].ty n->∀{a:dC->VS->Prop},a (.ret (ct false)) v->b1 C b7 g (lw b[k] n::A) v a) (h:a (.ret (ct false)) v):b1 C b7 dO [.d f,.fn g [] A] v a:=by
 refine b9 ?_;refine MX c f b e i l ?_;exact h
theorem w6(l:iV)(b:gK l.ty w)(c:a (.ret (cq l.n)) v):b1 C b7 hZ [lw l w] v a:=by
 obtain⟨f,e,tn,h,i,rfl⟩:=b.di;refine cQ (v:=cq l.n) ?_ Z Z c;refine cz ?_;exact a7 0 ⟨Z,Z⟩
theorem Bd(f:D)(b:List iV)(E:fK b f)(U:b.length<4294967296)(G:k8 iV.n b)(q:a (.ret (b3 0)) v):b1 C b7 nh [.d f,.fn hZ [] []] v a:=by
 refine b9 ?_;cases E with
 |nil=>
  refine cl.loop ?_;exact q
 |ps J=>
  rename_i Q L k o;have s:=J.len;refine cl.less (eW:=[(0,.d (.ps Q L 8 k o)),(1,.fn hZ [] []),(5,b3 1)]) ⟨Z,Z,Z,tv⟩ ?_;refine cl.iter (fun c:Nat=>[(0,.d (.ps Q L 8 k o)),(1,.fn hZ [] []),(5,b3 c)]) (fun _=>v) (fun c=>b.length-c) (fun c=>1<=c) ?_ 1 (YO _);intro c H;apply aZ<;>intro K
  ·have i:c<b.length:=s▸fF K;obtain⟨Y,I,p⟩:=J.get i;obtain⟨d,F,l⟩:=J.get (show c-1<b.length by omega);have h:cB (b[c-1]'om).n b[c].n=true:=G.sH (YQ om) (YQ i) om;obtain⟨S,W,tn,T,V,rfl⟩:=p.di;obtain⟨N,M,R,P,O,rfl⟩:=l.di;have t:=C6 (a:=c) H om;have e:=I;have n:=F;rw[<-cv]at e n;repeat first
    |refine b0 t ?_
    |refine b0 rfl ?_
    |refine b4 _ n ?_
    |refine b4 _ e ?_
    |refine b8 ?_
    |refine w6 _ l ?_
    |refine w6 _ p ?_
    |refine wY _ _ ?_
   refine a6 (by rw[EQ h];rfl) ?_;refine a6 (by rw[EQ h];rfl) ?_;exact⟨c+1,by show 1<=c+1;omega,by show b.length-(c+1)<b.length-c;omega,.same ⟨rfl,rfl,int_eq (cp om),tv⟩ rfl,rfl,rfl⟩
  ·exact q
theorem q4(i:gK c1 w):w=[.int .i64 0,.str [],.str [],.cn,.cn]∨∃e h f,w=[.int .i64 0,.str [],.str [],.cn,.ps e h 7 f []]:=by
 cases i with
 |mk c b=>
  obtain rfl:=c.cV;rcases b.cV with rfl|⟨e,h,f,rfl⟩
  ·exact .inl Z
  ·exact .inr ⟨e,h,f,Z⟩
theorem q5(c:gK c1 w)(b:a (.ret (ct true)) v):b1 C b7 iZ [.agg (w.map V.d)] v a:=by
 rcases q4 c with rfl|⟨e,h,f,rfl⟩
 ·refine cQ ?_ Z Z b;refine cz ?_;exact a7 0 ⟨Z,Z⟩
 ·refine cQ ?_ Z Z b;refine cz ?_;exact a7 0 ⟨Z,Z⟩
theorem w7{t:Ty}(i:gK t w)(h:∀e,a (.ret (ct e)) v):b1 C b7 iZ [.agg (w.map V.d)] v a:=by
 cases i with
 |mk c b=>
  rename_i q s o k f E p;refine b1.closed (P:=fun l=>∃e,l=.ret (ct e)) ?_ rfl (fun l i=>by obtain⟨e,rfl⟩:=i;exact h e);refine cz ?_;cases c with
  |nil=>
   cases b with
   |nil=>
    repeat' (change hz _ _ _;first|refine a8 (by with_reducible assumption) ?_|refine a6 (by with_reducible assumption) ?_|refine aZ (fun _=>?_) (fun _=>?_))
    all_goals exact a7 0 ⟨rfl,rfl,_,rfl⟩
   |ps b=>
    repeat' (change hz _ _ _;first|refine a8 (by with_reducible assumption) ?_|refine a6 (by with_reducible assumption) ?_|refine aZ (fun _=>?_) (fun _=>?_))
    all_goals exact a7 0 ⟨rfl,rfl,_,rfl⟩
  |ps c n=>
   cases b with
   |nil=>
    repeat' (change hz _ _ _;first|refine a8 (by with_reducible assumption) ?_|refine a6 (by with_reducible assumption) ?_|refine aZ (fun _=>?_) (fun _=>?_))
    all_goals exact a7 0 ⟨rfl,rfl,_,rfl⟩
   |ps b=>
    repeat' (change hz _ _ _;first|refine a8 (by with_reducible assumption) ?_|refine a6 (by with_reducible assumption) ?_|refine aZ (fun _=>?_) (fun _=>?_))
    all_goals exact a7 0 ⟨rfl,rfl,_,rfl⟩
theorem JH{f:FuncId}{dN b:List V}{o:cL}{I:dC->Prop}(q:b1 C b7 f dN [o] fun h k=>k=[o]/\cN h=true/\I h)(n:Nat)(c:nth v n=some o)(e:fG 0 o=true)(i:e5 1 dN=true)(F:b=gU (jg [n] v.length) dN)(s:∀h,I h->a h v):
  b1 C b7 f b v a:=by
 refine q.frame [n] Z sm (fun H G l=>?_) i F (fun D t l _=>?_)
 ·cases H with
  |zero=>
   obtain rfl:n=G:=by simpa using l
   exact⟨o,Z,by rw[<-cv,c,en _ _ e],iA _ _ e⟩
  |succ H=>simp at l
 ·obtain⟨rfl,p,E⟩:=l;rw[k7 _ _ p];simp only[List.map_cons,List.map_nil,en _ _ e,merge,List.append_nil];rw[sE c];exact s D E
end Go.Proofs.YtpejealjkmhkgaaGreatDoor
