/- Part of the proof. -/
import Derived.Test.YtpejealjkmhkgaaGreatDoorKBn
set_option linter.all false
set_option maxHeartbeats 16000000
set_option maxRecDepth 100000
open Int renaming ofNat->abK,ofNat_eq_natCast->abL
open List renaming length_append->aet,length_nil->aeu,length_cons->aev,getElem?_eq_getElem->aeN,take_of_length_le->aeO,getElem_mem->aeQ,mem_append->aeR,mem_singleton->aeS,length_take->aeT,drop_eq_getElem_cons->aeU,mem_cons->aeV,drop_of_length_le->aeW
open Nat renaming zero_le->aeM,le_refl->aeP,zero_add->aeX
namespace Go.Proofs.YtpejealjkmhkgaaGreatDoor
open Go.AM Go.VM
def zD(b:List cq)(s:cq):List cq:=if s∈b then b else b++[s]
def KI(l:List mM):List cq:=(l.map mM.n).foldl zD []
def tH:List Ty->Nat
 |[]=>0
 |t::b=>if k6 t then 7 else tH b
def ow(b:jX):List Ty:=[b.lo,b.up,b.ty]++b.ps.map mM.b
def wF(b:List jX)(c:jX):Nat:=
 if 8<c.ps.length∨65536<c.note.length then 7 else if iL c=false then 4 else if b.any (vq c)then 5 else if(KI c.ps).length<c.ps.length then 5 else if tH (ow c)≠0 then tH (ow c)else r9 c.ex
theorem UG{s:cq}:∀{b:List cq} {k i:Nat},s∈b->∃c,eN .string (cn s) (eC k b) i=some (some (i+c,bX true))/\nR (eC k b) c (cn s) (bX true)=eC k b:=by
 intro b;induction b with
 |nil=>intro k i h;simp at h
 |cons o n f=>
  intro k i h;by_cases m:s=o
  ·subst m;refine⟨0,?_,Z⟩;show(match decide (s=s)with
    |true=>some (some (i,bX true))
    |false=>eN .string (cn s) (eC (k+1) n) (i+1))=_
   rw[decide_eq_true rfl];rfl
  ·obtain⟨c,j,l⟩:=f (k:=k+1) (i:=i+1) (by simpa [m]using h);refine⟨c+1,?_,by show _::nR (eC (k+1) n) c (cn s) (bX true)=_;rw[l];rfl⟩;show(match decide (s=o)with
    |true=>some (some (i,bX true))
    |false=>eN .string (cn s) (eC (k+1) n) (i+1))=_
   rw[decide_eq_false m,show i+(c+1)=i+1+c by omega];exact j
theorem UH(l:List cq):∀c,(eC c l).length=l.length:=by
 induction l with
 |nil=>intro c;rfl
 |cons f l b=>intro c;simp[eC,b]
def HU(l:List mM)(b:Nat):List cq:=((l.take b).map mM.n).foldl zD []
variable{e:Nat}
theorem Q1{l:List mM}(h:e<l.length):HU l (e+1)=zD (HU l e) l[e].n:=by
 rw[HU,List.take_add_one,aeN h,List.map_append,List.foldl_append];rfl
theorem AF(n w:Nat)(l:List cH):fW n (.row w (l.map fun b=>b.map V.d))=true:=by
 cases l with
 |nil=>rfl
 |cons c f=>exact gH n w (c::f)
theorem HV(f:Nat->Nat)(w:Nat)(l:List cH):dF f (.row w (l.map fun b=>b.map V.d))=.row w (l.map fun b=>b.map V.d):=fh _ _ (AF 0 w l)
theorem AG(f:Nat->Nat)(w:Nat)(l:List cH)(b:cH):some (cN.row w (List.take l.length (List.drop 0 (l.map fun b=>b.map V.d))++[b.map V.d]))=some (dF f (.row w ((l++[b]).map fun b=>b.map V.d))):=by
 rw[HV,List.drop_zero,aeO sm,List.map_append];rfl
theorem fz5{c b:Nat}{l:List cH}:some (o5 c b l (.ms c 5 0 l.length l.length))=some (V.d (.ps b 0 5 l.length l)):=by
 rw[o5,kz];show some (V.d (.ps b (0*5) 5 l.length ((l.drop 0).take l.length)))=_;rw[List.drop_zero,aeO (aeP _),Nat.zero_mul]
def UI:Nat->Bool:=fun b=>Nat.beq b 72||Nat.beq b 1000023
theorem KJ{x:jX}{X:cH}(ad:rs x X)(L:wE x){a:List jX}{R:List cH}(aM:oh a R)(aP:a.length<4294967296)(b o c:Nat)(an:ct x.lo<1073741824/\ct x.up<1073741824/\ct x.ty<1073741824/\(∀aI∈x.ps,ct aI.b<1073741824)/\cP x.ex<1073741824):bV C ca wT [.agg (X.map V.d),.d (.ps b o 31 c R)] [] fun aY aF=>aF=[]/\aY=.ret (bW (wF a x)):=by
 have d:=DQ ad L;have aw:=HT ad L;have aB:=@Na x X ad a R aM aP b o c;obtain⟨ps,w,u,p,n,f1,l,y,q,v,f2,t,r,s,z,f3,M,I,N,J,K,t4,H,d4,h1,az,aq,aA,aL,rfl⟩:=eK ad;have O:∃aJ:Nat,aJ=x.ps.length/\((ps=.ci/\aJ=0)∨∃b o c h,ps=.ps b o 7 c h/\vb x.ps h/\h.length=aJ):=by
  exact Vv
 obtain⟨aJ,bc,O⟩:=O;by_cases ac:8<x.ps.length∨65536<x.note.length
 ·have hR:wF a x=7:=by rw[wF,if_pos ac]
  rcases O with⟨rfl,ax⟩|⟨D,B,A,h,rfl,aa,aG⟩
  ·have ai:decide (65536<abK x.note.length)=true:=decide_eq_true (by simp only[abL];omega);refine cv UI (fun _=>Z) ?_;refine cC d Z Z ?_;repeat refine de ?_
   exact D3
  ·by_cases Y:8<x.ps.length
   ·have ae:decide (8<abK h.length)=true:=decide_eq_true (by simp only[abL];omega);refine cv UI (fun _=>Z) ?_;refine cC d Z Z ?_;repeat refine de ?_
    exact D3
   ·have ae:decide (8<abK h.length)=false:=decide_eq_false (by simp only[abL];omega);have ai:decide (65536<abK x.note.length)=true:=decide_eq_true (by simp only[abL];omega);refine cv UI (fun _=>Z) ?_;refine cC d Z Z ?_;repeat refine de ?_
    exact D3
 ·have ai:decide (65536<abK x.note.length)=false:=decide_eq_false (by simp only[abL];omega);have hR:wF a x=if iL x=false then 4 else if a.any (vq x)then 5 else if(KI x.ps).length<x.ps.length then 5 else if tH (ow x)≠0 then tH (ow x)else r9 x.ex:=by rw[wF,if_neg ac]
  apply dH (T:=fun f:List cH=>[(2,.bp 0 0),(8,.ms 1 5 0 f.length f.length)]) (S:=fun f:List cH=>[.box ((mR x.k x.n x.exp x.wj x.note ps (eQ w u p n f1) (eQ l y q v f2) (eQ t r s z f3) [.int .i64 (abK M),.str I,.str N,.str J,.int .i64 K,t4,H,d4] x.m x.tg).map V.d),.row 5 (f.map fun X=>X.map V.d)]) (I:=fun f:List cH=>dz (ow x) f/\wF a x=if tH (ow x)≠0 then tH (ow x)else r9 x.ex)
  ·intro ap;rcases O with⟨rfl,ax⟩|⟨D,B,A,h,rfl,aa,aG⟩
   ·refine cv UI (fun _=>Z) ?_;refine cC d Z Z ?_;repeat refine de ?_
    refine cC aw Z Z ?_;cases G:iL x with
    |false=>
     rw[G,if_pos rfl]at hR;exact D3
    |true=>
    rw[G,if_neg dc]at hR;refine aB 0 Z ?_;apply aZ<;>intro Y
    ·have m:a.any (vq x)=true:=Y;rw[if_pos m]at hR;exact D3
    have m:a.any (vq x)=false:=Y;rw[if_neg (by rw[m];decide)]at hR;refine cd.loop ?_;refine cd.loop ?_;have af:x.ps=[]:=List.eq_nil_of_length_eq_zero om;refine cw (fU:=[.box ((mR x.k x.n x.exp x.wj x.note .ci (eQ w u p n f1) (eQ l y q v f2) (eQ t r s z f3) [.int .i64 (abK M),.str I,.str N,.str J,.int .i64 K,t4,H,d4] x.m x.tg).map V.d),.row 5 ([eQ w u p n f1,eQ l y q v f2,eQ t r s z f3].map fun X=>X.map V.d)]) (dB:=[(2,.bp 0 0),(8,.ms 1 5 0 3 3)]) (.eP 0 [0,2]) (ap [eQ w u p n f1,eQ l y q v f2,eQ t r s z f3] ⟨by rw[ow,af];exact .cons az (.cons aq (.cons aA .nil)),by rw[hR,af];rfl⟩)
   ·have ae:decide (8<abK h.length)=false:=decide_eq_false (by simp only[abL];omega);refine cv UI (fun _=>Z) ?_;refine cC d Z Z ?_;repeat refine de ?_
    refine cC aw Z Z ?_;cases G:iL x with
    |false=>
     rw[G,if_pos rfl]at hR;exact D3
    |true=>
    rw[G,if_neg dc]at hR;refine aB 0 Z ?_;apply aZ<;>intro Y
    ·have m:a.any (vq x)=true:=Y;rw[if_pos m]at hR;exact D3
    have m:a.any (vq x)=false:=Y;rw[if_neg (by rw[m];decide)]at hR;refine cD (dB:=[(2,.bp 0 0),(5,.map 1),(39,.d (.ps D B 7 A h)),(40,bW h.length),(41,bW 0)]) ?_;refine cd.iter (fun j:Nat=>[(2,.bp 0 0),(5,.map 1),(39,.d (.ps D B 7 A h)),(40,bW h.length),(41,bW j)]) (fun j=>[.box ((mR x.k x.n x.exp x.wj x.note (.ps D B 7 A h) (eQ w u p n f1) (eQ l y q v f2) (eQ t r s z f3) [.int .i64 (abK M),.str I,.str N,.str J,.int .i64 K,t4,H,d4] x.m x.tg).map V.d),pg (HU x.ps j)]) (fun j=>x.ps.length-j) (fun j=>j<=x.ps.length) ?_ 0 (aeM _);intro j aQ;apply aZ<;>intro F
    ·have i:j<x.ps.length:=by have:=ee F;omega
     obtain⟨aO,e,aR,Zc,rfl⟩:=aa.get i;obtain⟨W,T,U,S,f7,rfl⟩:=Zc.cZ;have E:=(ck h j).trans e;have P:=Q1 i;refine bZ Z ?_;refine cc _ E ?_;by_cases Q:x.ps[j].n∈HU x.ps j
     ·rw[zD,if_pos Q]at P;obtain⟨ak,ar,aN⟩:=UG (k:=0) (i:=0) Q;refine cc (some (0+ak,bX true)) ar ?_;exact⟨j+1,i,iK,.pick 0 [0,1] ⟨Z,Z,Z,Z,int_eq (cp om),tv⟩ Z Z Z Z Z dc ⟨Z,Z,by rw[P,fh _ _ (iM _)];exact congrArg (fun aK=>some (cN.map aK (HU x.ps j).length)) (by rw[aeX];exact aN),lp _ _ (iM _),tv⟩,Z,Z⟩
     ·rw[zD,if_neg Q]at P;refine cc none (Ap Q) ?_;exact⟨j+1,i,iK,.pick 0 [0,1] ⟨Z,Z,Z,Z,int_eq (cp om),tv⟩ Z Z Z Z Z dc ⟨Z,Z,by rw[P,fh _ _ (iM _),JM];rfl,lp _ _ (iM _),tv⟩,Z,Z⟩
    ·have i:x.ps.length<=j:=by have:=dq F;omega
     have ay:HU x.ps j=KI x.ps:=by rw[HU,aeO i];rfl
     have aW:(eC 0 (HU x.ps j)).length=(KI x.ps).length:=by rw[UH,ay]
     apply aZ<;>intro aH
     ·have av:=ee aH;rw[if_pos om]at hR;exact D3
     ·have av:=dq aH;rw[if_neg om]at hR;refine cw (fU:=[.box ((mR x.k x.n x.exp x.wj x.note (.ps D B 7 A h) (eQ w u p n f1) (eQ l y q v f2) (eQ t r s z f3) [.int .i64 (abK M),.str I,.str N,.str J,.int .i64 K,t4,H,d4] x.m x.tg).map V.d),.row 5 ([eQ w u p n f1,eQ l y q v f2,eQ t r s z f3].map fun X=>X.map V.d)]) (dB:=[(2,.bp 0 0),(8,.ms 1 5 0 3 3),(63,.d (.ps D B 7 A h)),(64,bW h.length),(65,bW 0)]) (.eP 0 [0,2]) ?_;refine cd.iter (fun ab:Nat×List cH=>[(2,.bp 0 0),(8,.ms 1 5 0 ab.2.length ab.2.length),(63,.d (.ps D B 7 A h)),(64,bW h.length),(65,bW ab.1)]) (fun ab=>[.box ((mR x.k x.n x.exp x.wj x.note (.ps D B 7 A h) (eQ w u p n f1) (eQ l y q v f2) (eQ t r s z f3) [.int .i64 (abK M),.str I,.str N,.str J,.int .i64 K,t4,H,d4] x.m x.tg).map V.d),.row 5 (ab.2.map fun X=>X.map V.d)]) (fun ab=>x.ps.length-ab.1) (fun ab=>ab.1<=x.ps.length/\dz ([x.lo,x.up,x.ty]++(x.ps.take ab.1).map mM.b) ab.2) ?_ (0,[eQ w u p n f1,eQ l y q v f2,eQ t r s z f3]) ⟨aeM _,.cons az (.cons aq (.cons aA .nil))⟩;rintro⟨ak,f⟩ ⟨ar,hA⟩;apply aZ<;>intro F
      ·have lU:ak<x.ps.length:=by have:=ee F;omega
       obtain⟨aO,e,aR,Zc,rfl⟩:=aa.get lU;obtain⟨W,T,U,S,f7,rfl⟩:=Zc.cZ;have E:=(ck h ak).trans e;refine bZ Z ?_;refine cc _ E ?_;have aj:=hA.len;simp only[aet,aev,aeu,List.length_map,aeT]at aj;have ao:dz ([x.lo,x.up,x.ty]++(x.ps.take (ak+1)).map mM.b) (f++[eQ W T U S f7]):=by
        exact acg
       have aC:V.ms 3 5 0 (f.length+1) (f.length+1)=V.ms 3 5 0 (f++[eQ W T U S f7]).length (f++[eQ W T U S f7]).length:=by rw[aet];rfl
       intro aX;refine a6 Z (a6 ⟨Z,Z,by simp,aeP _,rB (by show f.length<=_;omega) (aeP _) (Nat.le_of_ble_eq_true Z)⟩ (a7 Z (a7 (fG _) ?_)));exact⟨(ak+1,f++[eQ W T U S f7]),⟨lU,ao⟩,iK,.pick 0 [0,3] ⟨Z,congrArg some aC,Z,Z,int_eq (cp om),tv⟩ Z Z Z Z Z dc ⟨Z,Z,AG _ 5 f _,AF _ _ _,tv⟩,Z,Z⟩
      ·have lU:x.ps.length<=ak:=by have:=dq F;omega
       rw[aeO lU]at hA;have aE:dz (ow x) f:=hA;exact cw (fU:=[.box ((mR x.k x.n x.exp x.wj x.note (.ps D B 7 A h) (eQ w u p n f1) (eQ l y q v f2) (eQ t r s z f3) [.int .i64 (abK M),.str I,.str N,.str J,.int .i64 K,t4,H,d4] x.m x.tg).map V.d),.row 5 (f.map fun X=>X.map V.d)]) (dB:=[(2,.bp 0 0),(8,.ms 1 5 0 f.length f.length)]) (.pick 0 [0,1] ⟨Z,Z,tv⟩ Z Z Z Z Z dc ⟨Z,Z,congrArg some (HV _ _ _).symm,AF _ _ _,tv⟩) (ap f ⟨aE,hR⟩)
  ·rintro f ⟨hA,hR⟩;have aU:=hA.len;have aV:(ow x).length=3+x.ps.length:=by rw[ow,aet,List.length_map];rfl
   have aT:x.ps.length<=8:=om;have g:∀aS∈ow x,ft aS/\ct aS<4294967295:=by
    intro aS al;simp only[ow,aeR,aeV,List.mem_map,List.not_mem_nil,or_false]at al;rcases al with(rfl|rfl|rfl)|⟨aI,aD,rfl⟩
    ·exact⟨L.lo,om⟩
    ·exact⟨L.up,om⟩
    ·exact⟨L.ty,om⟩
    ·exact⟨(L.ps aI aD).1,by have:=an.2.2.2.1 aI aD;omega⟩
   refine cd.freeze 1 [(2,.bp 0 0),(75,.ms 1 5 0 f.length f.length),(76,bW f.length),(77,bW 0)] (es:=5) (els:=f.map fun aK=>aK.map V.d) (l:=f) Z (gk _) ⟨Z,Z,Z,Z,tv⟩ ⟨tv,(fun _=>⟨Z,Nat.le_of_eq (aeX _)⟩),tv,tv,tv⟩ (fun au=>?_);refine cd.less (dB:=[(2,.bp 0 0),(75,.d (.ps au 0 5 f.length f)),(76,bW f.length),(77,bW 0)]) ⟨Z,fz5,Z,Z,tv⟩ ?_;refine cd.iter (fun j:Nat=>[(2,.bp 0 0),(75,.d (.ps au 0 5 f.length f)),(76,bW f.length),(77,bW j)]) (fun j=>[.box ((mR x.k x.n x.exp x.wj x.note ps (eQ w u p n f1) (eQ l y q v f2) (eQ t r s z f3) [.int .i64 (abK M),.str I,.str N,.str J,.int .i64 K,t4,H,d4] x.m x.tg).map V.d),.gone]) (fun j=>f.length-j) (fun j=>j<=f.length/\tH (ow x)=tH ((ow x).drop j)) ?_ 0 ⟨aeM _,Z⟩;rintro j ⟨aQ,k⟩;apply aZ<;>intro F
   ·have i:j<(ow x).length:=by have:=ee F;omega
    obtain⟨ba,e,ah⟩:=hA.get i;obtain⟨W,T,U,S,f7,rfl⟩:=ah.cZ;have E:=(ck f j).trans e;rw[aeU i,tH]at k;refine bZ Z ?_;refine cc _ E ?_;refine qb _ _ ah (g _ (aeQ i)).1 (g _ (aeQ i)).2 ?_;cases am:k6 (ow x)[j]with
    |true=>
     rw[am,if_pos rfl]at k;rw[if_pos (by rw[k];decide),k]at hR;exact D3
    |false=>
     rw[am,if_neg dc]at k;exact⟨j+1,⟨by show j+1<=f.length;omega,k⟩,iK,.eP 0 [0,1],Z,Z⟩
   ·have i:(ow x).length<=j:=by have:=dq F;omega
    rw[aeW i]at k;rw[if_neg (by rw[k];decide)]at hR;refine Bi _ _ aL L.ex om ?_;exact D3
def lG(b:List jX):List jX->Nat×Nat
 |[]=>(0,0)
 |x::c=>if wF b x≠0 then(b.length,wF b x)else lG (b++[x]) c
def Q2(b:FO):Int×Nat:=if mN b≠0 then(-1,mN b)else(abK (lG [] b.ds).1,(lG [] b.ds).2)
structure Nb (m:FO):Prop where
 size:Bk m<=4096
 path:fV m.p=true
 is:∀x∈m.is,fV x.p=true/\cK x.a=true
 ds:∀x∈m.ds,wE x
variable{g:jX}
theorem DR{l:List jX}(h:g∈l):iw g<=gL l:=by
 induction l with
 |nil=>cases h
 |cons c f b=>
  have:gL (c::f)=iw c+gL f:=rfl;rcases aeV.1 h with rfl|h
  ·omega
  ·have:=b h;omega
theorem UJ{l:List mM}{p:mM}(h:p∈l):ct p.b<=lX l:=by
 induction l with
 |nil=>cases h
 |cons c f b=>
  have:lX (c::f)=ct c.b+lX f:=rfl;rcases aeV.1 h with rfl|h
  ·omega
  ·have:=b h;omega
theorem Nc(n:wE g)(p:iw g<=4096):ct g.lo<1073741824/\ct g.up<1073741824/\ct g.ty<1073741824/\(∀m∈g.ps,ct m.b<1073741824)/\cP g.ex<1073741824:=by
 have b:ct cV<1073741824:=dc;have l:cP oe<1073741824:=dc;rcases n.kind with⟨c,_,k,_,_,f⟩|⟨c,_,i,j,_,_,_⟩|⟨c,f,i,j,o,k,_⟩
 ·have:=AE c;exact⟨om,om,om,(fun m h=>by rw[(f m h).1];exact b),by rw[k];exact l⟩
 ·rw[wh c]at p;exact⟨by rw[i];exact b,by rw[j];exact b,om,(fun m h=>by have:=UJ h;omega),om⟩
 ·exact⟨by rw[i];exact b,by rw[j];exact b,by rw[o];exact b,(fun m h=>by rw[f]at h;cases h),by rw[k];exact l⟩
theorem oh.take{l:List jX}{b:List cH}(h:oh l b)(c:Nat):oh (l.take c) (b.take c):=by
 induction h generalizing c with
 |nil=>simp;exact .nil
 |cons h i f=>cases c with
  |zero=>exact .nil
  |succ c=>exact .cons h (f c)
theorem Nd{k:jX}{p:cH}(h:rs k p)(j:wE k){l:List jX}{f:List cH}(n:oh l f)(m:l.length<4294967296)(b o c:Nat)(i:iw k<=4096){σ:VS}{K:cO->VS->Prop}(hk:K (.ret (bW (wF l k))) σ):bV C ca wT [.agg (p.map V.d),.d (.ps b o 31 c f)] σ K:=by
 have h0:=KJ h j n m b o c (Nc j i);obtain⟨x,q,H,N,L,f1,J,r,P,M,f2,y,t,v,E,f3,A,O,w,u,F,t4,G,d4,B,s,I,z,D,rfl⟩:=eK h;exact NE
theorem Nf(y:FO)(P:cH)(z:At y P)(m:Nb y):bV C ca uI [.agg (P.map V.d)] [] fun e H=>H=[]/\e=.ret (.dS [.d (.int .i64 (Q2 y).1),bW (Q2 y).2]):=by
 have R:=M9 y P z m.size (fun ae S _=>(m.ds ae S).ex) m.path m.is;have F:=m.size;have t:=m.ds;obtain⟨D,G,I,n,rfl⟩:=z;obtain⟨r,l,b⟩:=y;have W:gL b<=4096:=by have:1+l.length+gL b<=4096:=F;omega
 have a:=vp b;refine cm ?_;refine cC R Z Z ?_;apply aZ<;>intro v
 ·have o:mN ⟨r,l,b⟩≠0:=fun N=>by rw[N]at v;cases v
  exact a8 0 ⟨Z,by rw[Q2,if_pos o];rfl⟩
 ·have o:mN ⟨r,l,b⟩=0:=l3 v;have u:Q2 ⟨r,l,b⟩=(abK (lG [] b).1,(lG [] b).2):=by rw[Q2,if_neg (by rw[o];decide)]
  have n:zn b G:=n;cases n with
  |nil=>
   refine cd.loop ?_;exact a8 0 ⟨Z,by rw[u];rfl⟩
  |ps w T=>
   rename_i M L k f;have X:=w.len;refine cD (dB:=[(1,.bp 0 0),(14,.d (.ps M L 31 k f)),(15,bW f.length),(16,bW 0)]) ?_;refine cd.iter (fun h:Nat=>[(1,.bp 0 0),(14,.d (.ps M L 31 k f)),(15,bW f.length),(16,bW h)]) (fun _=>[.box [cn r,.d D,.d (.ps M L 31 k f)]]) (fun h=>b.length-h) (fun h=>h<=b.length/\lG [] b=lG (b.take h) (b.drop h)) ?_ 0 ⟨aeM _,Z⟩;rintro h ⟨I,i⟩;apply aZ<;>intro A
   ·have c:h<b.length:=by have:=ee A;omega
    obtain⟨aw,Q,s⟩:=w.get c;have B:=t _ (aeQ c);have K:iw b[h]<=4096:=by have:=DR (aeQ c);omega
    have q:=fun J U (O:U (.ret (bW (wF (b.take h) b[h]))) J)=>@Nd _ _ s B _ _ (w.take h) (by rw[aeT];omega) M (L+0*31) (k-0) K J U O;obtain⟨ps,d,an,ar,aq,f1,ao,g,ax,au,f2,ag,aa,ac,ai,f3,ah,av,ad,ab,aj,t4,ak,d4,am,af,ay,al,ap,rfl⟩:=eK s;have E:=(ck f h).trans Q;refine bZ Z ?_;refine cc _ E ?_;have j:=T;refine bZ Z ?_;refine a6 ⟨aeM _,om,j,om,Z⟩ ?_;refine a6 (by repeat' (first|exact tv|exact rfl|refine bZ rfl ?_|exact aeM _|(show _<_;omega)|(show _<=_;omega)|exact j|refine And.intro ?_ ?_)) ?_;refine q _ _ ?_;refine a6 (by repeat' (first|exact tv|exact rfl|refine bZ rfl ?_|exact aeM _|(show _<_;omega)|(show _<=_;omega)|exact j|refine And.intro ?_ ?_)) ?_;refine a6 (by repeat' (first|exact tv|exact rfl|refine bZ rfl ?_|exact aeM _|(show _<_;omega)|(show _<=_;omega)|exact j|refine And.intro ?_ ?_)) ?_;rw[aeU c,lG]at i;apply aZ<;>intro x
    ·have p:wF (b.take h) b[h]≠0:=fun N=>by rw[N]at x;cases x
     rw[if_pos p,aeT,Nat.min_eq_left I]at i;exact a8 0 ⟨Z,by rw[u,i];rfl⟩
    ·have p:wF (b.take h) b[h]=0:=l3 x;rw[if_neg (by rw[p];decide)]at i;refine⟨h+1,⟨c,?_⟩,iK,.eP 0 [0],Z,Z⟩;rw[i,List.take_add_one,aeN c];rfl
   ·have c:b.length<=h:=by have:=dq A;omega
    rw[aeW c,lG]at i;refine a8 0 ⟨Z,by rw[u,i];rfl⟩
section
variable{R R':Rd} (h:R.ts=R'.ts)
include h
theorem vt(b p:Nat):jY b R p=jY b R' p:=by rw[jY,jY,eb h]
theorem UK:∀(b:Nat) (f:cq) (c:Nat),oU R b f c=oU R' b f c:=by
 intro b;induction b with
 |zero=>intro f c;rfl
 |succ b i=>intro f c;simp only[oU,eb h,kw h,i]
theorem KK(p:Nat):hP R p=hP R' p:=by simp only[hP,UK h,kw h,eb h,h]
theorem UL{f:Type}{step b:f->Nat->PR f}(l:∀i c,step i c=b i c):∀(j:Nat) (i:f) (c:Nat),qY step R j i c=qY b R' j i c:=by
 intro j;induction j with
 |zero=>intro i c;rfl
 |succ j k=>intro i c;simp only[qY,eb h,jc h,l,k]
theorem KL{c:Type}{step b:c->Nat->PR c}(i:∀f p,step f p=b f p)(f:c)(p:Nat):jZ step R f p=jZ b R' f p:=by simp only[jZ,eb h,UL h i,h]
theorem Q3(b:List mM)(p:Nat):gG R b p=gG R' b p:=by simp only[gG,eb h,vt h]
theorem Q4(b:Nat->PR Ty)(c:List mM)(p:Nat):ia b R c p=ia b R' c p:=by simp only[ia,eb h,vt h]
theorem Xj(b:Nat->PR Ty)(s:cq)(t0:Ty)(p:Nat):oI b R s t0 p=oI b R' s t0 p:=by simp only[oI,eb h]
theorem sa{f:Type}{c b:Nat->PR f}(i:∀p,c p=b p)(s:cq)(p:Nat):dI c R s p=dI b R' s p:=by simp only[dI,jc h,i]
theorem Nh(p:Nat):iS R p=iS R' p:=by simp only[iS,eb h,vt h,kw h]
theorem Q5(c:Nat->PR Ty)(f b:Bool)(n:cq)(p:Nat):kt c R f b n p=kt c R' f b n p:=by simp only[kt,vt h,KL h (Q3 h),Xj h,sa h (fun _=>rfl)]
theorem Q6(c:Nat->PR Ty)(f:Nat->PR Ex)(i b:Bool)(n:cq)(p:Nat):mB c f R i b n p=mB c f R' i b n p:=by simp only[mB,kw h,KL h (Q4 h c),sa h (fun _=>rfl)]
theorem Q7(c b:Bool)(n:cq)(p:Nat):kQ R c b n p=kQ R' c b n p:=by simp only[kQ,kw h,sa h (Nh h)]
theorem UM(p:Nat):og R p=og R' p:=by simp only[og,eb h,vt h]
theorem UN(c:Nat->PR Ty)(b:Nat->PR Ex)(p:Nat):j6 c b R p=j6 c b R' p:=by simp only[j6,eb h,UM h,Q5 h,Q6 h,Q7 h]
theorem Ni(p:Nat):iu R p=iu R' p:=by simp only[iu,KK h,sa h (kw h)]
theorem KM:∀(b:Nat) (f:List vY) (c:Nat),fT R b f c=fT R' b f c:=by
 intro b;induction b with
 |zero=>intro f c;rfl
 |succ b i=>intro f c;simp only[fT,eb h,Ni h,i]
theorem Q8(i:Nat->PR Ty)(f:Nat->PR Ex):∀(c:Nat) (k:List jX) (b:List Nat) (j:Nat),ib i f R c k b j=ib i f R' c k b j:=by
 intro c;induction c with
 |zero=>intro k b j;rfl
 |succ c l=>intro k b j;simp only[ib,eb h,UN h,l]
theorem Xk(c:Nat->PR Ty)(b:Nat->PR Ex)(p:Nat):tQ c b R p=tQ c b R' p:=by simp only[tQ,KM h,Q8 h,sa h (KK h),h]
end
theorem Xl(b c:Nat)(ts:List Tok)(p:Nat):AD ⟨b,c,ts⟩ p=AD ⟨0,0,ts⟩ p:=by
 unfold AD;rw[Uz (R:=⟨b,c,ts⟩) (R':=⟨0,0,ts⟩) rfl,HM (R:=⟨b,c,ts⟩) (R':=⟨0,0,ts⟩) rfl,Xk (R:=⟨b,c,ts⟩) (R':=⟨0,0,ts⟩) rfl]
theorem sb(R:Rd)(p:Nat):(dh R p).E:=by
 rw[dh];split
 ·exact .bad dc
 ·exact .ok
theorem zE(R:Rd)(b p:Nat):(jY b R p).E:=by
 rw[jY];split
 ·exact .bad dc
 ·exact .ok
theorem Xm(R:Rd):∀(f:Nat) (s:cq) (c:Nat),(oU R f s c).E:=by
 intro f;induction f with
 |zero=>intro s c;exact .bad dc
 |succ f h=>
  intro s c;rw[oU];split
  ·have b:=sb R (c+1);revert b;cases dh R (c+1)with
   |bad k l=>exact fun b=>.bad b.get
   |ok j i=>exact fun _=>h _ _
  ·exact .ok
theorem OK(R:Rd)(p:Nat):(hP R p).E:=by
 rw[hP];have b:=sb R p;revert b;cases dh R p with
 |bad h f=>exact fun b=>.bad b.get
 |ok s c=>
  intro _;dsimp only;have b:=Xm R R.ts.length s c;revert b;cases oU R R.ts.length s c with
  |bad h f=>exact fun b=>.bad b.get
  |ok s c=>
   intro _;dsimp only;split
   ·exact .ok
   ·exact .bad dc
theorem Xn{f:Type}{step:f->Nat->PR f}(k:∀h c,(step h c).E)(R:Rd):∀(i:Nat) (h:f) (c:Nat),(qY step R i h c).E:=by
 intro i;induction i with
 |zero=>intro h c;exact .bad dc
 |succ i j=>
  intro h c;rw[qY];have b:=k h c;revert b;cases step h c with
  |bad n o=>exact fun b=>.bad b.get
  |ok l m=>
   intro _;dsimp only;split
   ·exact j _ _
   ·exact(iv R _ _).map
theorem OL{b:Type}{step:b->Nat->PR b}(c:∀f p,(step f p).E)(R:Rd)(f:b)(p:Nat):(jZ step R f p).E:=by
 rw[jZ];split
 ·exact Xn c R _ _ _
 ·exact .ok
theorem UO(R:Rd)(b:List mM)(p:Nat):(gG R b p).E:=by
 rw[gG];split
 ·exact .bad dc
 ·exact(zE R _ _).map
variable{a:Nat->PR Ty}
theorem UP(c:∀p,(a p).E)(R:Rd)(f:List mM)(p:Nat):(ia a R f p).E:=by
 rw[ia];have b:=zE R 2 p;revert b;cases jY 2 R p with
 |bad i j=>exact fun b=>.bad b.get
 |ok s h=>
  intro _;dsimp only;split
  ·exact(c _).map
  ·exact .ok
theorem UQ(b:∀p,(a p).E)(R:Rd)(s:cq)(t0:Ty)(p:Nat):(oI a R s t0 p).E:=by
 rw[oI];split
 ·exact(b _).map
 ·exact .ok
theorem qf{h:Type}{c:Nat->PR h}(f:∀p,(c p).E)(R:Rd)(s:cq)(p:Nat):(dI c R s p).E:=by
 rw[dI];have b:=iv R [s] p;revert b;cases cu R [s] p with
 |bad j k=>exact fun b=>.bad b.get
 |ok s i=>exact fun _=>f _
theorem F0(R:Rd)(p:Nat):(iS R p).E:=by
 rw[iS];split
 ·exact zE R _ _
 ·exact sb R _
theorem UR(f:∀p,(a p).E)(R:Rd)(l b:Bool)(n:cq)(p:Nat):(kt a R l b n p).E:=by
 rw[kt];have c:=zE R 2 p;revert c;cases jY 2 R p with
 |bad h i=>exact fun c=>.bad c.get
 |ok s j=>
  intro _;dsimp only;have c:=OL (UO R) R [] j;revert c;cases jZ (gG R) R [] j with
  |bad h i=>exact fun c=>.bad c.get
  |ok k q1=>
   intro _;dsimp only;have c:=UQ f R [62,58] zm q1;revert c;cases oI a R [62,58] zm q1 with
   |bad h i=>exact fun c=>.bad c.get
   |ok m q2=>
    intro _;dsimp only;have c:=UQ f R [60,58] cV q2;revert c;cases oI a R [60,58] cV q2 with
    |bad h i=>exact fun c=>.bad c.get
    |ok o q3=>exact fun _=>(qf f R _ _).map
variable{d:Nat->PR Ex}
theorem US(f:∀p,(a p).E)(h:∀p,(d p).E)(R:Rd)(m b:Bool)(n:cq)(p:Nat):(mB a d R m b n p).E:=by
 rw[mB];have c:=sb R p;revert c;cases dh R p with
 |bad j k=>exact fun c=>.bad c.get
 |ok s i=>
  intro _;dsimp only;have c:=OL (UP f R) R [] i;revert c;cases jZ (ia a R) R [] i with
  |bad j k=>exact fun c=>.bad c.get
  |ok l q1=>
   intro _;dsimp only;have c:=qf f R [58] q1;revert c;cases dI a R [58] q1 with
   |bad j k=>exact fun c=>.bad c.get
   |ok o q2=>exact fun _=>(qf h R _ _).map
theorem UT(R:Rd)(i b:Bool)(n:cq)(p:Nat):(kQ R i b n p).E:=by
 rw[kQ];have c:=sb R p;revert c;cases dh R p with
 |bad j k=>exact fun c=>.bad c.get
 |ok s f=>
  intro _;dsimp only;have c:=qf (F0 R) R [58,58] f;revert c;cases dI (iS R) R [58,58] f with
  |bad j k=>exact fun c=>.bad c.get
  |ok h q1=>exact fun _=>(qf (F0 R) R _ _).map
theorem Xo(R:Rd)(p:Nat):(og R p).E:=by
 rw[og];split
 ·split
  ·exact(zE R _ _).map
  ·exact .ok
 ·exact .ok
theorem Xp(c:∀p,(a p).E)(f:∀p,(d p).E)(R:Rd)(p:Nat):(j6 a d R p).E:=by
 rw[j6];have b:=Xo R p;revert b;cases og R p with
 |bad j k=>exact fun b=>.bad b.get
 |ok h i=>
  intro _;dsimp only;split
  ·exact UR c R _ _ _ _
  ·split
   ·exact US c f R _ _ _ _
   ·split
    ·exact UT R _ _ _ _
    ·exact .bad dc
theorem Q9(R:Rd)(p:Nat):(iu R p).E:=by
 rw[iu];have b:=OK R p;revert b;cases hP R p with
 |bad h c=>exact fun b=>.bad b.get
 |ok s f=>exact fun _=>(qf (sb R) R _ _).map
theorem Nj(R:Rd):∀(f:Nat) (i:List vY) (c:Nat),(fT R f i c).E:=by
 intro f;induction f with
 |zero=>intro i c;exact .bad dc
 |succ f h=>
  intro i c;rw[fT];split
  ·have b:=Q9 R (c+1);revert b;cases iu R (c+1)with
   |bad k l=>exact fun b=>.bad b.get
   |ok s j=>exact fun _=>h _ _
  ·exact .ok
theorem UU(j:∀b,(a b).E)(k:∀b,(d b).E)(R:Rd):∀(h:Nat) (l:List jX) (f:List Nat) (b:Nat),(ib a d R h l f b).E:=by
 intro h;induction h with
 |zero=>intro l f b;exact .bad dc
 |succ h i=>
  intro l f b;rw[ib];split
  ·have c:=Xp j k R b;revert c;cases j6 a d R b with
   |bad n o=>exact fun c=>.bad c.get
   |ok s m=>exact fun _=>i _ _ _
  ·exact .ok
theorem abA(f:∀p,(a p).E)(h:∀p,(d p).E)(R:Rd)(p:Nat):(tQ a d R p).E:=by
 rw[tQ];have b:=qf (OK R) R [109,111,100,117,108,101] p;revert b;cases dI (hP R) R [109,111,100,117,108,101] p with
 |bad i j=>exact fun b=>.bad b.get
 |ok s c=>
  intro _;dsimp only;have b:=Nj R R.ts.length [] c;revert b;cases fT R R.ts.length [] c with
  |bad i j=>exact fun b=>.bad b.get
  |ok s c=>exact fun _=>(UU f h R _ _ _ _).map
theorem UW(R:Rd)(p:Nat):(AD R p).E:=abA (HP R _) (UE R _) R p
def q7:FO:=⟨[],[],[]⟩
def s6(s:cq):FO×Nat×Nat:=match jl s with
 |.err b f=>(q7,b,f)
 |.ok ts=>match AD ⟨0,0,ts⟩ 0 with
  |.bad b f=>(q7,b,f)
  |.ok c h=>if(Rd.tok ⟨0,0,ts⟩ h).kind≠0 then(q7,(Rd.tok ⟨0,0,ts⟩ h).off,3)
   else if mN c.1≠0 then(q7,0,mN c.1)
   else if(lG [] c.1.ds).2≠0 then(q7,c.2.getD (lG [] c.1.ds).1 0,(lG [] c.1.ds).2)else(c.1,0,0)
def Ra(s:cq)(c:cO):Prop:=∃b,At (s6 s).1 b/\c=.ret (.dS [.agg (b.map V.d),bW (s6 s).2.1,bW (s6 s).2.2])
theorem Xq:At q7 [.str [],.ci,.ci]:=⟨_,_,.nil,.nil,rfl⟩
theorem O4{s:cq}{b:Nat}(h:s6 s=(q7,e,b)):Ra s (.ret (.dS [wg,bW e,bW b])):=by
 rw[Ra,h];exact⟨_,Xq,Z⟩
theorem Xr:∀(f b:List jX),(lG b f).2≠0->(lG b f).1<b.length+f.length:=by
 intro f;induction f with
 |nil=>intro b h;exact absurd rfl h
 |cons j k i=>
  intro b h;rw[lG]at h⊢;by_cases c:wF b j≠0
  ·rw[if_pos c];simp
  ·rw[if_neg c]at h⊢;have:=i _ h;simp only[aet,aev,aeu]at this⊢;omega
theorem Nk(s:cq)(H:∀ts c r,jl s=.ok ts->AD ⟨0,0,ts⟩ 0=.ok c r->Nb c.1/\c.2.length=c.1.ds.length):bV C ca tj [cn s] [] fun x B=>B=[]/\cM x=true/\Ra s x:=by
 refine cm ?_;refine M6 s 1 ?_ (fun x I b=>?_)
 ·exact Z
 unfold Bj at b;cases i:jl s with
 |err f w=>
  rw[i]at b;have b:x=.ret (.dS [wg,bW f,bW w]):=b;subst b;have m:=mD i;have hp:s6 s=(q7,f,w):=by rw[s6,i]
  refine aZ (fun h=>?_) (fun h=>absurd (l3 h) m);exact RN
 |ok ts=>
  rw[i]at b;dsimp only at b;obtain⟨P,q,b⟩:=b;rw[Xl]at b;cases k:AD ⟨0,0,ts⟩ 0 with
  |bad f w=>
   rw[k]at b;have b:x=.ret (.dS [wg,bW f,bW w]):=b;subst b;have m:=UW _ _ f w k;have hp:s6 s=(q7,f,w):=by rw[s6,i];dsimp only;rw[k]
   refine aZ (fun h=>?_) (fun h=>absurd (l3 h) m);exact RN
  |ok F r=>
   obtain⟨c,j⟩:=F;rw[k]at b;dsimp only at b;have K:Rd.tok ⟨P,q,ts⟩ r=Rd.tok ⟨0,0,ts⟩ r:=eb (R:=⟨P,q,ts⟩) (R':=⟨0,0,ts⟩) rfl r;rw[K]at b;have hp:s6 s=if(Rd.tok ⟨0,0,ts⟩ r).kind≠0 then(q7,(Rd.tok ⟨0,0,ts⟩ r).off,3)
    else if mN c≠0 then(q7,0,mN c)
    else if(lG [] c.ds).2≠0 then(q7,j.getD (lG [] c.ds).1 0,(lG [] c.ds).2)else(c,0,0):=by rw[s6,i];dsimp only;rw[k]
   by_cases z:(Rd.tok ⟨0,0,ts⟩ r).kind≠0
   ·rw[if_pos z]at b hp;subst b;exact RN
   ·rw[if_neg z]at b hp;obtain⟨N,l,u,rfl⟩:=b;have l:At c N:=l;have u:FP j I:=u;obtain⟨J,y⟩:Nb c/\j.length=c.ds.length:=H _ _ _ i k;have G:=Nf c N l J;have E:=l;obtain⟨M,O,V,L,rfl⟩:=l;refine cC G Z Z ?_;rw[Q2];by_cases n:mN c≠0
    ·rw[if_pos n];rw[if_pos n]at hp;have D:(!decide (abK (mN c)=0))=true:=by rw[OI n];rfl
     repeat refine de ?_
     exact RN
    ·rw[if_neg n];rw[if_neg n]at hp;by_cases o:(lG [] c.ds).2≠0
     ·rw[if_pos o]at hp;have D:(!decide (abK (lG [] c.ds).2=0))=true:=by rw[OI o];rfl
      have Q:decide (abK (lG [] c.ds).1<0)=false:=decide_eq_false (by simp only[abL];omega);have p:=Xr c.ds [] o;simp only[aeu,aeX]at p;cases u with
      |nil=>exact absurd p (by rw[<-y];exact Nat.not_lt_zero _)
      |ps=>
       rename_i T W S;have t:(lG [] c.ds).1<j.length:=om;have v:nth (j.map fun U=>([.int .i64 (abK U)]:cH)) (lG [] c.ds).1=some [.int .i64 (abK (j.getD (lG [] c.ds).1 0))]:=by
        rw[ck,List.getElem?_map,aeN t,List.getD_eq_getElem?_getD,aeN t];rfl
       repeat refine de ?_
       refine bZ Z ?_;refine cc _ v ?_;repeat (refine cf ?_)
       exact RN
     ·rw[if_neg o]at hp;have A:(lG [] c.ds).2=0:=om;rw[A];repeat refine de ?_
      refine a8 0 ⟨Z,Z,?_⟩;rw[Ra,hp];exact⟨_,E,Z⟩
section
variable{R:Rd} (w:R.Wf) (mS:R.Nm)
include w mS
theorem HW{p b:Nat}{s:cq}(h:jY 2 R p=.ok s b):dX s=true/\b=p+1/\b<R.ts.length:=by
 rw[jY]at h;split at h
 ·cases h
 ·rename_i hk;cases h;have hk:(R.tok p).kind=2:=om;have hp:p<R.ts.length:=by
   exact acj
  exact⟨(mS p hp).2 hk,Z,w.go p _ (bY hp) om⟩
theorem HX{p b:Nat}{s:cq}(h:dh R p=.ok s b):cK s=true/\b=p+1/\b<R.ts.length:=by
 rw[dh]at h;split at h
 ·cases h
 ·rename_i hk;cases h;have hk:(R.tok p).kind=1:=om;have hp:p<R.ts.length:=by
   exact acj
  exact⟨(mS p hp).1 hk,Z,w.go p _ (bY hp) om⟩
omit mS in
theorem qg{c:Type}{i:Nat->PR c}{s:cq}{p l:Nat}{m:c}(j:p<R.ts.length)(h:dI i R s p=.ok m l):p+1<R.ts.length/\i (p+1)=.ok m l:=by
 rw[dI]at h;split at h
 ·cases h
 ·rename_i n q1 f;have b:=cL _ _ _ f;have k:=da w _ _ _ j f;simp only[aev,aeu]at b;subst b;exact⟨k,h⟩
omit mS in
theorem UX(l:Good a R 0){s:cq}{t0:Ty}(j:ft t0){p b:Nat}{c:Bool×Ty}(f:p<R.ts.length)(h:oI a R s t0 p=.ok c b):ft c.2/\((c.1=false/\c.2=t0/\b=p)∨(c.1=true/\ct c.2+p+1<=b))/\p<=b/\b<R.ts.length:=by
 rw[oI]at h;split at h
 ·rename_i k;obtain⟨n,i,rfl⟩:=dv h;obtain⟨o,q,r,m⟩:=l _ _ _ (aeM _) (w.step f k) i;exact⟨o,.inr ⟨Z,by show ct n+p+1<=b;omega⟩,om,m⟩
 ·cases h;exact⟨j,.inl ⟨Z,Z,Z⟩,aeP _,f⟩
omit mS in
theorem Rb{c:Type}{step:c->Nat->PR c}{q:c->Prop}{o:c->Nat}(x:∀j f b i,f<R.ts.length->q j->step j f=.ok b i->q b/\o b+f<=o j+i+1/\f<i/\i<R.ts.length):∀(p:Nat) (j:c) (f:Nat) (b:c) (i:Nat),f<R.ts.length->q j->qY step R p j f=.ok b i->q b/\o b+f<=o j+i/\f<i/\i<R.ts.length:=by
 intro p;induction p with
 |zero=>intro j f b i _ _ h;cases h
 |succ p y=>
  intro j f b i t z h;rw[qY]at h;split at h
  ·cases h
  ·rename_i C q1 k;obtain⟨m,B,D,l⟩:=x _ _ _ _ t z k;split at h
   ·rename_i r;obtain⟨u,A,E,v⟩:=y _ _ _ _ (w.step l r) m h;exact⟨u,om,om,v⟩
   ·obtain⟨F,n,rfl⟩:=dv h;have k:=cL _ _ _ n;have s:=da w _ _ _ l n;simp only[aev,aeu]at k;exact⟨m,om,om,s⟩
omit mS in
theorem F1{c:Type}{step:c->Nat->PR c}{P:c->Prop}{M:c->Nat}(o:∀i p b f,p<R.ts.length->P i->step i p=.ok b f->P b/\M b+p<=M i+f+1/\p<f/\f<R.ts.length){i b:c}{p f:Nat}(j:p<R.ts.length)(k:P i)(h:jZ step R i p=.ok b f):P b/\M b+p<=M i+f/\p<=f/\f<R.ts.length:=by
 rw[jZ]at h;split at h
 ·rename_i n;obtain⟨l,q,r,m⟩:=Rb w o _ _ _ _ _ (w.step j n) k h;exact⟨l,om,om,m⟩
 ·cases h;exact⟨k,aeP _,aeP _,j⟩
theorem abB(m:List mM)(p:Nat)(f:List mM)(j:Nat)(q:p<R.ts.length)(k:∀c∈m,c.b=cV/\c.vr<=2/\dX c.n=true)(h:gG R m p=.ok f j):(∀c∈f,c.b=cV/\c.vr<=2/\dX c.n=true)/\f.length+p<=m.length+j+1/\p<j/\j<R.ts.length:=by
 rw[gG]at h;split at h
 ·cases h
 ·rename_i r b;obtain⟨s,o,rfl⟩:=dv h;obtain⟨l,rfl,n⟩:=HW w mS o;have i:r<=2:=by
   rw[xJ]at b;split at b
   ·cases b;omega
   ·split at b
    ·cases b;omega
    ·split at b
     ·cases b;omega
     ·cases b
  refine⟨fun c hx=>?_,by simp only[aet,aev,aeu];omega,om,n⟩;rcases aeR.1 hx with hx|hx
  ·exact k c hx
  ·rw[aeS]at hx;subst hx;exact⟨Z,i,l⟩
theorem q9:ft cV:=.mk (.base om) (fun c b=>by cases b)
theorem Rc:ft zm:=.mk (.base om) (fun c b=>by cases b)
theorem UY:ej oe:=.mk .int (fun c b=>by cases b)
theorem abC(t:Good a R 0)(l:List mM)(p:Nat)(c:List mM)(m:Nat)(u:p<R.ts.length)(i:∀b∈l,ft b.b/\b.vr=0/\dX b.n=true)(h:ia a R l p=.ok c m):(∀b∈c,ft b.b/\b.vr=0/\dX b.n=true)/\(c.length+lX c)+p<=(l.length+lX l)+m+1/\p<m/\m<R.ts.length:=by
 rw[ia]at h;split at h
 ·cases h
 ·rename_i s q1 r;obtain⟨k,rfl,f⟩:=HW w mS r;split at h
  ·rename_i q;obtain⟨y,j,rfl⟩:=dv h;obtain⟨o,v,x,n⟩:=t _ _ _ (aeM _) (w.step f q) j;refine⟨fun b hx=>?_,by rw[zB];simp only[aet,aev,aeu,lX];omega,om,n⟩;rcases aeR.1 hx with hx|hx
   ·exact i b hx
   ·rw[aeS]at hx;subst hx;exact⟨o,Z,k⟩
  ·cases h;refine⟨fun b hx=>?_,by rw[zB];simp only[aet,aev,aeu,lX,show ct cV=1 from rfl];omega,om,f⟩;rcases aeR.1 hx with hx|hx
   ·exact i b hx
   ·rw[aeS]at hx;subst hx;exact⟨q9 w mS,Z,k⟩
end
end Go.Proofs.YtpejealjkmhkgaaGreatDoor
