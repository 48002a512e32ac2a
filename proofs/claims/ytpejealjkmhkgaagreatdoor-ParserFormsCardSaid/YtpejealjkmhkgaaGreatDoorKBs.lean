/- Part of the proof. -/
import Derived.Test.YtpejealjkmhkgaaGreatDoorKBr
set_option linter.all false
set_option maxHeartbeats 16000000
set_option maxRecDepth 100000
open Int renaming ofNat_eq_natCast->abK,ofNat->abL
open Nat renaming le_refl->aet,zero_le->aev,beq->aeP
open List renaming getElem_mem->aeu,length_map->aeM,length_append->aeN,length_cons->aeO,length_nil->aeQ,getElem?_eq_getElem->aeR,mem_cons->aeS
namespace Go.Proofs.YtpejealjkmhkgaaGreatDoor
open Go.AM Go.VM
def adr:Nat->Bool:=fun b=>aeP b 1000006||aeP b 1000008||aeP b 1000019||aeP b 1000021
def D4:Tm:=[(1,.bp 0 0),(3,.bp 1 0)]
theorem aeq(k:Nat)(b:Int):∃e c h j i d g f l,rA k b=[bX e,bX c,bX h,bX j,bX i,bX d,bX g,.d (.int .i64 l),bX f]:=by
 unfold rA;split<;>exact⟨_,_,_,_,_,_,_,_,_,rfl⟩
theorem Ib{k:Nat}{m n x:cq}{num:Int}{types:List Ty}{d:List hZ}{e:List Ex}{ty lb kd:D}(u:fB (.mk k m n x num types d e))(v:fA types ty)(hl:eR d lb)(t:fR e kd)(L:types.length+d.length<4294967296)(w:cy (k7 (.mk k m n x num types d e))<4294967295):
  bV C ca lL [Ua k m n x num ty lb kd] [] fun aG ae=>ae=[]/\aG=.ret (bW (oX (.mk k m n x num types d e))):=by
 have B:=u.Ue;have l:=u.all;refine cv adr (fun _=>Z) ?_;refine Ia u hl om ?_;obtain⟨b0,b1,b2,b3,b4,b5,b6,b8,j,f⟩:=aeq k (abL e.length);have s:=fun{σ:VS} {K:cO->VS->Prop} (g:K (.ret (bX false)) σ)=>E1 u v hl t om (σ:=σ) (K:=K) g;rw[f]at s⊢;refine s ?_;have az:k≠4->types.length<=1:=fun g=>by cases u<;>first|exact absurd rfl g|(simp;done)|simp
 have ab:(lb=.ci/\d.length=0)∨∃b o c els,lb=.ps b o 8 c els/\els.length=d.length:=by
  exact aae
 have V:(ty=.ci/\types.length=0)∨∃b o c els,ty=.ps b o 5 c els/\els.length=types.length:=by
  rcases v.inv with⟨h1,h2⟩|⟨b,o,c,els,h1,h2⟩
  ·exact .inl ⟨h2,by rw[h1];rfl⟩
  ·exact .inr ⟨b,o,c,els,h1,h2.len⟩
 apply dH (ι:=Unit) (T:=fun _=>D4) (S:=fun _=>[.box (ky k m n x num ty lb kd),.box [bX b0,bX b1,bX b2,bX b3,bX b4,bX b5,bX b6,.d (.int .i64 j),bX b8]]) (I:=fun _=>¬(32<d.length∨8<types.length∨65536<x.length))
 ·intro hC;rcases ab with⟨F,S⟩|⟨b,o,c,els,F,S⟩<;>rcases V with⟨y,aa⟩|⟨aF,aK,aL,ak,y,aa⟩;all_goals
   rw[F,y];repeat' first|(change jR _ _ _;first|refine cg (by with_reducible assumption) ?_|refine a7 (by with_reducible assumption) ?_|refine aZ (fun _=>?_) (fun _=>?_))
   all_goals first
    |exact a8 0 ⟨rfl,congrArg (fun au=>cO.ret (bW au)) (E3 (by clear hC l w B u hl v t s f;simp only[decide_eq_true_eq,decide_eq_false_iff_not,abK]at*;omega)).symm⟩
    |exact cw (dB:=D4) (fU:=[.box (ky k m n x num ty lb kd),.box [bX b0,bX b1,bX b2,bX b3,bX b4,bX b5,bX b6,.d (.int .i64 j),bX b8]]) (.same ⟨rfl,rfl,tv⟩ (by rw[F,y];rfl)) (hC () (by clear hC l w B u hl v t s f;simp only[decide_eq_true_eq,decide_eq_false_iff_not,abK]at*;omega))
 ·intro _ E;have ac:m=[]∨cK m=true:=by cases u<;>first|exact .inl rfl|assumption
  have ag:b0=true->k≠16->cK n=true:=fun hb g=>by
   cases u<;>first|assumption|exact absurd rfl g|(simp[rA,bX]at f;simp[f]at hb)
  have hxx:k=15->cK x=true:=fun g=>by cases u<;>first|assumption|cases g
  have ah:b5=true->k=13:=fun hb=>by
   cases u<;>first|rfl|(simp[rA,bX]at f;simp[f]at hb)
  refine kJ m ac ?_;apply dH (ι:=Unit) (T:=fun _=>D4) (S:=fun _=>[.box (ky k m n x num ty lb kd),.box [bX b0,bX b1,bX b2,bX b3,bX b4,bX b5,bX b6,.d (.int .i64 j),bX b8]]) (I:=fun _=>True)
  ·intro hC;apply aZ<;>intro hb
   ·have a:b0=true:=hb;repeat refine de ?_
    apply aZ<;>intro g
    ·have T:k≠16:=fun W=>by rw[W]at g;exact absurd g dc
     have af:=ag a T;repeat refine de ?_
     refine eU n (lZ af) ?_;rw[af];exact Sc
    ·exact Sc
   ·exact Sc
  ·intro _ _;apply dH (ι:=Unit) (T:=fun _=>D4) (S:=fun _=>[.box (ky k m n x num ty lb kd),.box [bX b0,bX b1,bX b2,bX b3,bX b4,bX b5,bX b6,.d (.int .i64 j),bX b8]]) (I:=fun _=>True)
   ·intro hC;rcases hl.inv with⟨h1,h2⟩|⟨b,o,c,els,h2,r⟩
    ·rw[h2];refine cd.loop ?_;refine cd.loop ?_;exact YI
    ·rw[h2];have p:=r.len;refine cD (dB:=[(1,.bp 0 0),(3,.bp 1 0),(5,bW 0)]) ?_;refine cd.iter (fun i:Nat=>[(1,.bp 0 0),(3,.bp 1 0),(5,bW i)]) (fun _=>[.box (ky k m n x num ty (.ps b o 8 c els) kd),.box [bX b0,bX b1,bX b2,bX b3,bX b4,bX b5,bX b6,.d (.int .i64 j),bX b8]]) (fun i=>d.length-i) (fun i=>i<=d.length) ?_ 0 (aev _);intro i P;apply aZ<;>intro q
     ·have hi':i<d.length:=p▸ee q;obtain⟨aq,hx,h⟩:=r.get hi';obtain⟨aj,am,tn,ao,ar,z⟩:=h.cZ;rw[z]at hx;have A:d[i]∈d:=aeu hi';have H:=B.name _ A;refine bZ Z ?_;refine cc _ (by rw[ck];exact hx) ?_;refine eU d[i].n (lZ H) ?_;rw[H];apply aZ<;>intro ap
      ·have R:=ah ap;have Q:=B.var _ A;rw[if_pos R]at Q;repeat refine de ?_
       refine bZ Z ?_;refine cc _ (by rw[ck];exact hx) ?_;repeat refine de ?_
       refine eU d[i].v (lZ Q) ?_;rw[Q];repeat refine de ?_
       exact Fb
      ·repeat refine de ?_
       exact Fb
     ·clear q P;refine cD (dB:=[(1,.bp 0 0),(3,.bp 1 0),(6,bW 1)]) ?_;refine cd.iter (fun i:Nat=>[(1,.bp 0 0),(3,.bp 1 0),(6,bW i)]) (fun _=>[.box (ky k m n x num ty (.ps b o 8 c els) kd),.box [bX b0,bX b1,bX b2,bX b3,bX b4,bX b5,bX b6,.d (.int .i64 j),bX b8]]) (fun i=>d.length-i) (fun i=>1<=i) ?_ 1 (aet _);intro i P;apply aZ<;>intro q
      ·have hi':i<d.length:=p▸ee q;have I:i-1<d.length:=om;obtain⟨aq,hx,h⟩:=r.get I;obtain⟨W,N,U⟩:=r.get hi';obtain⟨aj,am,tn,ao,ar,z⟩:=h.cZ;obtain⟨aB,aI,aH,aC,aD,ad⟩:=U.cZ;rw[z]at hx;rw[ad]at N;have X:=B.srt.px (aeR I) (aeR hi') om;rw[<-ck]at hx N;have ai:=vz (a:=i) om om;repeat first|refine bZ ai ?_|refine bZ rfl ?_|refine cc _ hx ?_|refine cc _ N ?_
       repeat refine cf ?_
       refine s7 d[i-1].n d[i].n X ?_;repeat refine cf ?_
       refine⟨i+1,by show 1<=i+1;omega,iK,.eS,Z,Z⟩
      ·exact YI
   ·intro _ _;apply dH (ι:=Unit) (T:=fun _=>D4) (S:=fun _=>[.box (ky k m n x num ty lb kd),.box [bX b0,bX b1,bX b2,bX b3,bX b4,bX b5,bX b6,.d (.int .i64 j),bX b8]]) (I:=fun _=>¬(k=15/\n=x))
    ·intro hC;apply aZ<;>intro h1
     ·repeat refine de ?_
      apply aZ<;>intro h2
      ·repeat refine de ?_
       exact a8 0 ⟨Z,congrArg (fun au=>cO.ret (bW au)) (DJ E (AJ (b:=15) h1) (of_decide_eq_true h2)).symm⟩
      ·repeat refine de ?_
       exact cw (dB:=D4) (fU:=[.box (ky k m n x num ty lb kd),.box [bX b0,bX b1,bX b2,bX b3,bX b4,bX b5,bX b6,.d (.int .i64 j),bX b8]]) .eS (hC () (fun O=>of_decide_eq_false h2 O.2))
     ·repeat refine de ?_
      exact cw (dB:=D4) (fU:=[.box (ky k m n x num ty lb kd),.box [bX b0,bX b1,bX b2,bX b3,bX b4,bX b5,bX b6,.d (.int .i64 j),bX b8]]) .eS (hC () (fun O=>ED (b:=15) h1 O.1))
    ·intro _ G;rw[FV E G];refine vv (e:=.mk k m n x num types d e) (.mk v hl t) (fun _ _ _ _ _ _ _ _ W=>by cases W;exact L) (fun aq Y=>?_);generalize k7 (.mk k m n x num types d e)=own at Y l w;have aw:=dA own;cases Y with
     |nil=>
      exact oy
     |ps r=>
      rename_i b o J els;have p:=r.len;refine cD (dB:=[(8,.d (.ps b o 5 J els)),(9,bW 0)]) ?_;refine cd.iter (fun i:Nat=>[(8,.d (.ps b o 5 J els)),(9,bW i)]) (fun _=>[.box (ky k m n x num ty lb kd),.box [bX b0,bX b1,bX b2,bX b3,bX b4,bX b5,bX b6,.d (.int .i64 j),bX b8]]) (fun i=>own.length-i) (fun i=>i<=own.length/\∀j (hj:j<own.length),j<i->k6 own[j]=false) ?_ 0 ⟨aev _,fun j _ u=>absurd u (Nat.not_lt_zero _)⟩;rintro i ⟨P,hno⟩;apply aZ<;>intro q
      ·have hi':i<own.length:=p▸ee q;obtain⟨aq,hx,h⟩:=r.get hi';obtain⟨aE,aM,aA,aJ,f2,rfl⟩:=h.cZ;refine bZ Z ?_;refine cc _ (by rw[ck];exact hx) ?_;have ax:=dJ (aeu hi');refine vu own[i] _ h (l _ (aeu hi')) om ?_;cases hb:k6 own[i]with
       |true=>exact a8 0 ⟨rfl,by rw[Kw hi' hb];rfl⟩
       |false=>
        refine⟨i+1,⟨hi',fun j hj ay=>?_⟩,iK,.eD 2,Z,Z⟩;exact aeC
      ·have hi':own.length<=i:=p▸dq q;exact a8 0 ⟨Z,by rw[any_none fun j hj=>hno j hj om];rfl⟩
theorem E6:OP:=by
 intro o w h e t u v j;have n:=fJ o;have l:=e.node;have c:=fun q s r p f types b d (m:o=.mk q s r p f types b d)=>wb e m om;cases h with
 |mk i k g=>exact cC (Ib l i k g (c _ _ _ _ _ _ _ _ rfl) om) rfl rfl j
theorem OQ(s:cq)(b:List cq):(zD b s).length<=b.length+1/\(s∈b->(zD b s).length=b.length):=by
 rw[zD];split
 ·exact⟨Nat.le_succ _,fun _=>Z⟩
 ·rename_i d;exact⟨by simp,fun c=>absurd c d⟩
theorem Xy:∀(c b:List cq),(c.foldl zD b).length<=b.length+c.length:=by
 intro c;induction c with
 |nil=>intro b;exact aet _
 |cons e c d=>
  intro b;rw[List.foldl_cons];have:=d (zD b e);have:=(OQ e b).1;exact Im
theorem Xz:∀(e b:List cq),b.length+e.length<=(e.foldl zD b).length->(∀d∈e,d ∉ b)/\e.Pairwise (· ≠ ·):=by
 intro e;induction e with
 |nil=>intro b _;exact⟨by simp,.nil⟩
 |cons d e j=>
  intro b h;rw[List.foldl_cons]at h;have n:=Xy e (zD b d);have f:d ∉ b:=fun g=>by
   have:=(OQ d b).2 g;simp only[aeO]at h;omega
  have k:zD b d=b++[d]:=by rw[zD,if_neg f]
  rw[k]at h;obtain⟨l,m⟩:=j (b++[d]) (by simp only[aeN,aeO,aeQ]at h⊢;omega);refine⟨fun i c=>?_,List.pairwise_cons.2 ⟨fun i c g=>?_,m⟩⟩
  ·rcases aeS.1 c with rfl|c
   ·exact f
   ·exact fun g=>l i c (List.mem_append_left _ g)
  ·exact l i c (by rw[g];simp)
structure Z3 (L:List jX) (x:jX):Prop where
 ps:x.ps.length<=8
 note:x.note.length<=65536
 tit:iL x=true
 new:∀y∈L,y.n≠x.n
 dis:(x.ps.map mM.n).Pairwise (· ≠ ·)
 tys:∀t∈ow x,k6 t=false
 ex:r9 x.ex=0
theorem Va{l:List Ty}(c:tH l=0):∀f∈l,k6 f=false:=by
 induction l with
 |nil=>simp
 |cons f l d=>
  rw[tH]at c;split at c
  ·cases c
  ·rename_i e;intro g b;rcases aeS.1 b with rfl|b
   ·simpa using e
   ·exact d c g b
theorem Vb{h:List jX}{c:jX}(b:wF h c=0):Z3 h c:=by
 rw[wF]at b;split at b
 ·cases b
 rename_i k;split at b
 ·cases b
 rename_i e;split at b
 ·cases b
 rename_i g;split at b
 ·cases b
 rename_i j;split at b
 ·rename_i d;exact absurd b d
 rename_i d;refine⟨om,om,by simpa using e,fun i f l=>?_,?_,Va om,b⟩
 ·exact g (List.any_eq_true.2 ⟨i,f,decide_eq_true l⟩)
 ·refine(Xz (c.ps.map mM.n) [] ?_).2;rw[aeM];show 0+c.ps.length<=(KI c.ps).length;omega
theorem Ro{l:List mM}(b:tG l .ci):l=[]:=by cases b;rfl
abbrev dcW(b:jX)(c:D)(lo f e d:cH):List V:=(mR b.k b.n b.exp b.wj b.note c lo f e d b.m b.tg).map V.d
def aer:Nat->Bool:=fun b=>aeP b 104||aeP b 1000026
theorem KW{aN:cq}{ay:D}{l:List jX}{els:List cH}(hE:oh l els)(b o c:Nat){i:Nat}(aO:i<l.length)(aU:l.length<=64)(v:wE l[i])(XG:Z3 (l.take i) l[i]) 
  (E:ct l[i].lo<1073741824/\ct l[i].up<1073741824/\ct l[i].ty<1073741824/\(∀aH∈l[i].ps,ct aH.b<1073741824)/\cP l[i].ex<1073741824):
  bV C ca pU [.agg [cn aN,.d ay,.d (.ps b o 31 c els)],bW i] [] fun bj aD=>aD=[]/\bj=.ret (bW 0):=by
 obtain⟨K,aK,I⟩:=hE.get aO;obtain⟨x,ao⟩:∃x,x=l[i]:=⟨_,rfl⟩;rw[<-ao]at I v XG E;have av:=DU I v;have aG:=H8 I v XG.tit;obtain⟨aJ,z,w,q,p,f1,n,A,r,y,f2,u,s,t,B,f3,S,M,U,N,O,t4,L,d4,aB,ax,al,az,aM,rfl⟩:=eK I;have RB:=(ck els i).trans aK;have aS:decide (2<abL x.k)=false:=by
  rcases v.kind with h|h|h<;>rw[h.1]<;>rfl
 have aX:decide (65536<abL x.note.length)=false:=decide_eq_false (by have:=XG.note;simp only[abK];omega);have aL:=XG.ps;refine cv aer (fun _=>Z) ?_;refine bZ Z ?_;refine cc _ RB ?_;repeat refine de ?_
 apply dH (T:=fun d:List cH=>[(5,.bp 0 0),(9,.ms 1 5 0 d.length d.length)]) (S:=fun d:List cH=>[.box (dcW x aJ (eQ z w q p f1) (eQ n A r y f2) (eQ u s t B f3) [.int .i64 (abL S),.str M,.str U,.str N,.int .i64 O,t4,L,d4]),.row 5 (d.map fun K=>K.map V.d)]) (I:=fun d:List cH=>dz (ow x) d)
 ·intro aj;rcases AH aB with rfl|⟨b2,ae,c2,J,rfl,ab⟩
  ·have an:x.ps=[]:=Ro aB;refine cC av Z Z ?_;repeat refine de ?_
   refine cC aG Z Z ?_;refine cD (dB:=[(1,bW i),(5,.bp 1 0),(2,.bp 0 0),(6,bW 0)]) ?_;refine cd.iter (fun k:Nat=>[(1,bW i),(5,.bp 1 0),(2,.bp 0 0),(6,bW k)]) (fun _=>_) (fun k=>i-k) (fun k=>k<=i) ?_ 0 (aev _);intro k aq;apply aZ<;>intro hc2
   ·exact Yl
   refine cd.loop ?_;refine cd.loop ?_;exact cw (fU:=[.box (dcW x .ci (eQ z w q p f1) (eQ n A r y f2) (eQ u s t B f3) [.int .i64 (abL S),.str M,.str U,.str N,.int .i64 O,t4,L,d4]),.row 5 ([eQ z w q p f1,eQ n A r y f2,eQ u s t B f3].map fun K=>K.map V.d)]) (dB:=[(5,.bp 0 0),(9,.ms 1 5 0 3 3)]) (.eP 0 [1,2]) (aj [eQ z w q p f1,eQ n A r y f2,eQ u s t B f3] (by rw[ow,an];exact .cons ax (.cons al (.cons az .nil))))
  ·have aE:=ab.len;have aR:decide (8<abL J.length)=false:=decide_eq_false (by simp only[abK];omega);have G:∀H (h:H<x.ps.length),∃j f g e f7,eZ x.ps[H].b (eQ j f g e f7)/\nth J H=some ([.str x.ps[H].n,.int .i64 (abL x.ps[H].vr)]++eQ j f g e f7):=fun H h=>by
    obtain⟨bl,hy,bp,Zc,rfl⟩:=ab.get h;obtain⟨j,f,g,e,f7,rfl⟩:=Zc.cZ;exact⟨j,f,g,e,f7,Zc,(ck J H).trans hy⟩
   refine cC av Z Z ?_;repeat refine de ?_
   refine cC aG Z Z ?_;refine cD (dB:=[(1,bW i),(5,.bp 1 0),(2,.bp 0 0),(6,bW 0)]) ?_;refine cd.iter (fun k:Nat=>[(1,bW i),(5,.bp 1 0),(2,.bp 0 0),(6,bW k)]) (fun _=>_) (fun k=>i-k) (fun k=>k<=i) ?_ 0 (aev _);intro k aq;apply aZ<;>intro hc2
   ·exact Yl
   refine cD (dB:=[(5,.bp 1 0),(7,bW 0)]) ?_;refine cd.iter (fun F:Nat=>[(5,.bp 1 0),(7,bW F)]) (fun _=>_) (fun F=>x.ps.length-F) (fun F=>F<=x.ps.length) ?_ 0 (aev _);intro F bn;apply aZ<;>intro aw
   ·have ac:F<x.ps.length:=aE▸ee aw;obtain⟨be,bk,bf,bh,bg,aW,af⟩:=G F ac;refine cD (dB:=[(5,.bp 1 0),(7,bW F),(8,bW 0)]) ?_;refine cd.iter (fun Q:Nat=>[(5,.bp 1 0),(7,bW F),(8,bW Q)]) (fun _=>_) (fun Q=>F-Q) (fun Q=>Q<=F) ?_ 0 (aev _);intro Q ba;apply aZ<;>intro ar
    ·have aa:Q<F:=ee ar;obtain⟨bq,bi,bc,br,bo,aI,ap⟩:=G Q om;have aQ:decide (x.ps[Q].n=x.ps[F].n)=false:=decide_eq_false (by
      have:=List.pairwise_iff_getElem.1 XG.dis Q F (by rw[aeM];omega) (by rw[aeM];omega) aa;rw[List.getElem_map,List.getElem_map]at this;exact this)
     repeat first|refine bZ rfl ?_|refine cc _ af ?_|refine cc _ ap ?_|refine de ?_|refine cf ?_
     exact⟨Q+1,aa,iK,.eP 0 [0,1],Z,Z⟩
    ·exact⟨F+1,ac,iK,.eP 0 [0,1],Z,Z⟩
   ·refine cw (fU:=[.box (dcW x (.ps b2 ae 7 c2 J) (eQ z w q p f1) (eQ n A r y f2) (eQ u s t B f3) [.int .i64 (abL S),.str M,.str U,.str N,.int .i64 O,t4,L,d4]),.row 5 ([eQ z w q p f1,eQ n A r y f2,eQ u s t B f3].map fun K=>K.map V.d)]) (dB:=[(5,.bp 0 0),(9,.ms 1 5 0 3 3),(10,bW 0)]) (.eP 0 [1,2]) ?_;refine cd.iter (fun R:Nat×List cH=>[(5,.bp 0 0),(9,.ms 1 5 0 R.2.length R.2.length),(10,bW R.1)]) (fun R=>[.box (dcW x (.ps b2 ae 7 c2 J) (eQ z w q p f1) (eQ n A r y f2) (eQ u s t B f3) [.int .i64 (abL S),.str M,.str U,.str N,.int .i64 O,t4,L,d4]),.row 5 (R.2.map fun K=>K.map V.d)]) (fun R=>x.ps.length-R.1) (fun R=>R.1<=x.ps.length/\dz ([x.lo,x.up,x.ty]++(x.ps.take R.1).map mM.b) R.2) ?_ (0,[eQ z w q p f1,eQ n A r y f2,eQ u s t B f3]) ⟨aev _,.cons ax (.cons al (.cons az .nil))⟩;rintro⟨H,d⟩ ⟨am,hA⟩;have am:H<=x.ps.length:=am;have hA:dz ([x.lo,x.up,x.ty]++(x.ps.take H).map mM.b) d:=hA;apply aZ<;>intro X
    ·have lU:H<x.ps.length:=by have:=ee X;omega
     obtain⟨j,f,g,e,f7,Zc,RC⟩:=G H lU;refine bZ Z ?_;refine cc _ RC ?_;have ad:=hA.len;simp only[aeN,aeO,aeQ,aeM,List.length_take]at ad;have ai:dz ([x.lo,x.up,x.ty]++(x.ps.take (H+1)).map mM.b) (d++[eQ j f g e f7]):=by
      exact acg
     have aA:V.ms 2 5 0 (d.length+1) (d.length+1)=V.ms 2 5 0 (d++[eQ j f g e f7]).length (d++[eQ j f g e f7]).length:=by rw[aeN];rfl
     intro aY;refine a6 Z (a6 ⟨Z,Z,by simp,aet _,rB (by show d.length<=_;omega) (aet _) (Nat.le_of_ble_eq_true Z)⟩ (a7 Z (a7 (fG _) ?_)));exact⟨(H+1,d++[eQ j f g e f7]),⟨lU,ai⟩,iK,.pick 0 [0,2] ⟨Z,congrArg some aA,int_eq (cp om),tv⟩ Z Z Z Z Z dc ⟨Z,Z,AG _ 5 d _,AF _ _ _,tv⟩,Z,Z⟩
    ·have lU:x.ps.length<=H:=by have:=dq X;omega
     rw[List.take_of_length_le lU]at hA;exact cw (fU:=[.box (dcW x (.ps b2 ae 7 c2 J) (eQ z w q p f1) (eQ n A r y f2) (eQ u s t B f3) [.int .i64 (abL S),.str M,.str U,.str N,.int .i64 O,t4,L,d4]),.row 5 (d.map fun K=>K.map V.d)]) (dB:=[(5,.bp 0 0),(9,.ms 1 5 0 d.length d.length)]) (.pick 0 [0,1] ⟨Z,Z,tv⟩ Z Z Z Z Z dc ⟨Z,Z,congrArg some (HV _ _ _).symm,AF _ _ _,tv⟩) (aj d hA)
 ·rintro d hA;have ah:=hA.len;have au:(ow x).length<=11:=by simp only[ow,aeN,aeO,aeQ,aeM];omega
  have P:∀aP∈ow x,ft aP/\ct aP<1073741824:=by
   intro aP ag;simp only[ow,List.cons_append,List.nil_append,aeS,List.mem_map]at ag;rcases ag with rfl|rfl|rfl|⟨aH,aC,rfl⟩
   ·exact⟨v.lo,E.1⟩
   ·exact⟨v.up,E.2.1⟩
   ·exact⟨v.ty,E.2.2.1⟩
   ·exact⟨(v.ps aH aC).1,E.2.2.2.1 aH aC⟩
  have T:=XG.tys;generalize ow x=W at hA ah P T au;refine cD (dB:=[(5,.bp 0 0),(9,.ms 1 5 0 d.length d.length),(11,bW 0)]) ?_;refine cd.iter (fun k:Nat=>[(5,.bp 0 0),(9,.ms 1 5 0 d.length d.length),(11,bW k)]) (fun _=>_) (fun k=>W.length-k) (fun k=>k<=W.length) ?_ 0 (aev _);intro k aq;apply aZ<;>intro X
  ·have hk':k<W.length:=by have:=ee X;omega
   obtain⟨bm,hy,Y⟩:=hA.get hk';obtain⟨ak,aT⟩:=P _ (aeu hk');have aF:=T _ (aeu hk');obtain⟨j,f,g,e,f7,rfl⟩:=Y.cZ;have RC:nth (d.map fun K=>K.map V.d) (0+k)=some ((eQ j f g e f7).map V.d):=by rw[Nat.zero_add,ck,List.getElem?_map,hy];rfl
   refine bZ Z (a6 (by show k<d.length;omega) ?_);refine cc _ RC ?_;refine vu W[k] (eQ j f g e f7) Y ak om ?_;rw[aF];exact⟨k+1,hk',iK,.eS,Z,Z⟩
  ·apply aZ<;>intro aV
   ·refine Ny E6 x.ex _ aM v.ex om _ _ ?_;rw[XG.ex];exact a8 0 ⟨Z,Z⟩
   ·exact a8 0 ⟨Z,Z⟩
theorem XA:∀(f b:List jX),(lG b f).2=0->∀c (d:c<f.length),wF (b++f.take c) f[c]=0:=by
 intro f;induction f with
 |nil=>intro i _ c d;simp at d
 |cons j k g=>
  intro i d c h;rw[lG]at d;split at d
  ·rename_i e;exact absurd d e
  ·rename_i e;cases c with
   |zero=>rw[List.take_zero,List.append_nil];exact Classical.not_not.1 e
   |succ c=>
    have:=g (i++[j]) d c (by simpa using h);rw[List.append_assoc]at this;exact this
theorem KX(o:FO)(L:cH)(u:At o L)(n:Nb o)(t:mN o=0)(z:(lG [] o.ds).2=0):bV C ca pR [.agg (L.map V.d)] [] fun v k=>k=[]/\v=.ret (.dS [bW 0,bW 0]):=by
 have E:=n.size;have g:=n.ds;have s:=n.path;have y:=H6 o L u om (fun P U _=>(g P U).ex);have d:o.is.length<=16/\o.ds.length<=64/\mT o.p [] o.is=0:=by
  rw[mN]at t;split at t
  ·cases t
  ·exact⟨om,om,t⟩
 have T:=H7 o L u n.is d.2.2 d.1;clear n;obtain⟨e,f,p,j,rfl⟩:=u;obtain⟨q,c,b⟩:=o;have B:gL b<=4096:=by have:1+c.length+gL b<=4096:=E;omega
 have a:=vp b;have S:c.length<=16:=d.1;have w:b.length<=64:=d.2.1;have g:∀P∈b,wE P:=g;have z:(lG [] b).2=0:=z;have y:bV C ca hY [.agg [cn q,.d e,.d f]] [] fun v k=>k=[]/\∃m,m<=Bk ⟨q,c,b⟩/\v=.ret (bW m):=y;have I:e=.ci∨∃G D K,e=.ps G D 2 K (c.map fF):=by
  have p:wY c e:=p;cases p with
  |nil=>exact .inl rfl
  |ps=>exact .inr ⟨_,_,_,rfl⟩
 have A:f=.ci∨∃G D K l,f=.ps G D 31 K l/\oh b l:=by
  have j:zn b f:=j;cases j with
  |nil=>exact .inl rfl
  |ps J _=>exact .inr ⟨_,_,_,_,rfl,J⟩
 clear p j;refine cm ?_;refine F3 q s ?_;have r:∀{x:VS} {M:cO->VS->Prop},(∀m:Nat,m<=4096->M (.ret (bW m)) x)->bV C ca hY [.agg [cn q,.d e,.d f]] x M:=fun{x M} Q=>
  bV.closed (P:=fun v=>∃m,m<=Bk ⟨q,c,b⟩/\v=.ret (bW m)) (y.mono fun v k J=>⟨J.1,by obtain⟨m,_,O⟩:=J.2;rw[O];rfl,J.2⟩) rfl (fun v ⟨m,W,O⟩=>by rw[O];exact Q m om)
 have N:decide (16<abL (c.map fF).length)=false:=decide_eq_false (by rw[aeM];simp only[abK];omega);rcases I with rfl|⟨ac,ab,ad,rfl⟩<;>rcases A with rfl|⟨G,D,K,l,rfl,F⟩;all_goals
  try have X:=F.len
  try have R:decide (64<abL l.length)=false:=decide_eq_false (by simp only[abK];omega)
  repeat refine de ?_
  refine r (fun m W=>?_);have aa:decide (4096<abL m)=false:=decide_eq_false (by simp only[abK];omega);repeat refine de ?_
  refine cC T Z Z ?_;first
   |refine cd.loop ?_
    exact a8 0 ⟨Z,Z⟩
   |refine cD (dB:=[(1,.bp 0 0),(5,bW 0)]) ?_
    refine cd.iter (fun i:Nat=>[(1,.bp 0 0),(5,bW i)]) (fun _=>_) (fun i=>b.length-i) (fun i=>i<=b.length) ?_ 0 (aev _);intro i p;apply aZ<;>intro H
    ·have hi':i<b.length:=by have:=ee H;omega
     have h:b[i]∈b:=aeu hi';refine cC (KW F G D K hi' w (g _ h) (Vb (XA b [] z i hi')) (Nc (g _ h) (Nat.le_trans (DR h) B))) Z Z ?_;exact Fb
    ·exact a8 0 ⟨Z,Z⟩
def F4(s:cq)(c:cO):Prop:=∃b,eZ (kR s).1 b/\c=.ret (.dS [.agg (b.map V.d),bW (kR s).2.1,bW (kR s).2.2])
variable{a:Nat}
theorem Lf{s:cq}{b:Nat}(c:kR s=(w6,a,b)):F4 s (.ret (.dS [.agg [.d (.int .i64 0),.d (.str []),.d (.str []),.d .ci,.d .ci],bW a,bW b])):=by
 rw[F4,c];exact⟨_,WT,Z⟩
theorem ads(c:a≠0):decide (abL a=0)=false:=decide_eq_false fun b=>c (by simp only[abK]at b;omega)
theorem KY(s:cq):bV C ca wO [cn s] [] fun o u=>u=[]/\cM o=true/\F4 s o:=by
 refine cm ?_;refine Qr s (fun o b=>?_);unfold Dv at b;cases f:jl s with
 |err e n=>
  rw[f]at b;have b:o=.ret (.dS [zo,bW e,bW n]):=b;subst b;have i:=mD f;have hp:kR s=(w6,e,n):=by rw[kR,f]
  refine a7 (ads i) ?_;exact R9
 |ok c=>
  rw[f]at b;dsimp only at b;obtain⟨m,d,b⟩:=b;obtain⟨D,l⟩:=mC (R:=⟨m,d,c⟩) f;have w:=qc (R:=⟨m,d,c⟩) f;have x:dl ⟨m,d,c⟩ c.length=dl ⟨0,0,c⟩ c.length:=HM (R:=⟨m,d,c⟩) (R':=⟨0,0,c⟩) rfl _;have g:=pt D w c.length;rw[x]at b g;cases h:dl ⟨0,0,c⟩ c.length 0 with
  |bad e n=>
   rw[h]at b;have b:o=.ret (.dS [zo,bW e,bW n]):=b;subst b;have i:=HP _ _ _ e n h;have hp:kR s=(w6,e,n):=by rw[kR,f];dsimp only;rw[h]
   refine a7 (ads i) ?_;exact R9
  |ok v j=>
   rw[h]at b;dsimp only at b;have hp:kR s=if(Rd.tok ⟨0,0,c⟩ j).kind≠0 then(w6,(Rd.tok ⟨0,0,c⟩ j).off,3)else if k6 v=true then(w6,0,7)else(v,0,0):=by rw[kR,f];dsimp only;rw[h]
   have z:Rd.tok ⟨m,d,c⟩ j=Rd.tok ⟨0,0,c⟩ j:=eb (R:=⟨m,d,c⟩) (R':=⟨0,0,c⟩) rfl j;rw[z]at b;by_cases q:(Rd.tok ⟨0,0,c⟩ j).kind≠0
   ·rw[if_pos q]at b hp;subst b;exact R9
   ·rw[if_neg q]at b hp;obtain⟨J,k,rfl⟩:=b;obtain⟨A,F,_,r⟩:=g 0 v j (aet _) l h;have t:=D.len;have r:j<c.length:=r;have t:c.length<4294967296:=t;obtain⟨I,K,E,G,H,rfl⟩:=k.cZ;refine qb v _ k A om ?_;cases p:k6 v with
    |true=>
     rw[p,if_pos rfl]at hp;exact R9
    |false=>
     rw[p,if_neg dc]at hp;refine a8 0 ⟨Z,Z,by rw[F4,hp];exact⟨_,k,rfl⟩⟩
theorem Nu(s:cq){σ:VS}{K:cO->VS->Prop}(b:∀c,F4 s c->K c σ):bV C ca wO [cn s] σ K:=
 bV.closed (KY s) rfl b
theorem Rp{s:cq}(c:(kR s).2.2=0):ft (kR s).1/\k6 (kR s).1=false/\ct (kR s).1<4294967295:=by
 unfold kR at c⊢;cases d:jl s with
 |err f p=>rw[d]at c;exact absurd c (mD d)
 |ok b=>
  rw[d]at c;dsimp only at c⊢;cases e:dl ⟨0,0,b⟩ b.length 0 with
  |bad f p=>rw[e]at c;exact absurd c (HP _ _ _ f p e)
  |ok o n=>
   rw[e]at c;dsimp only at c⊢;split at c
   ·cases c
   ·rename_i m;split at c
    ·cases c
    ·rename_i i;rw[if_neg m,if_neg i];obtain⟨q,g⟩:=mC (R:=⟨0,0,b⟩) d;have k:=qc (R:=⟨0,0,b⟩) d;obtain⟨l,r,_,j⟩:=pt q k b.length 0 o n (aet _) g e;have h:=q.len;have j:n<b.length:=j;have h:b.length<4294967296:=h;exact⟨l,by simpa using i,by show ct o<4294967295;omega⟩
theorem Vc{s:cq}(c:(oY s).2.2=0):ej (oY s).1/\r9 (oY s).1=0/\cP (oY s).1<4294967294:=by
 unfold oY at c⊢;cases b:jl s with
 |err g o=>rw[b]at c;exact absurd c (mD b)
 |ok d=>
  rw[b]at c;dsimp only at c⊢;cases e:Ih ⟨0,0,d⟩ d.length 0 with
  |bad g o=>rw[e]at c;exact absurd c (UE _ _ _ g o e)
  |ok n m=>
   rw[e]at c;dsimp only at c⊢;split at c
   ·cases c
   ·rename_i l;split at c
    ·rename_i f;exact absurd c f
    ·rename_i f;rw[if_neg l,if_neg f];obtain⟨t,h⟩:=mC (R:=⟨0,0,d⟩) b;have j:=qc (R:=⟨0,0,d⟩) b;obtain⟨k,q,_,i⟩:=zx t j d.length 0 0 n m (aet _) h e;have p:=(B8 b).2.2.2.1;have i:m<d.length:=i;exact⟨k,Classical.not_not.1 f,by show cP n<4294967294;omega⟩
theorem XB{s:cq}(l:∀c,jl s=.ok c->c.length<=4097)(b:(s6 s).2.2=0):Nb (s6 s).1/\mN (s6 s).1=0/\(lG [] (s6 s).1.ds).2=0:=by
 unfold s6 at b⊢;cases d:jl s with
 |err i n=>rw[d]at b;exact absurd b (mD d)
 |ok c=>
  rw[d]at b;dsimp only at b⊢;cases f:AD ⟨0,0,c⟩ 0 with
  |bad i n=>rw[f]at b;exact absurd b (UW _ _ i n f)
  |ok r q=>
   rw[f]at b;dsimp only at b⊢;split at b
   ·cases b
   ·rename_i k;split at b
    ·rename_i g;exact absurd b g
    ·rename_i g;split at b
     ·rename_i h;exact absurd b h
     ·rename_i h;rw[if_neg k,if_neg g,if_neg h];obtain⟨m,j⟩:=mC (R:=⟨0,0,c⟩) d;have e:=qc (R:=⟨0,0,c⟩) d;obtain⟨o,_⟩:=U3 m e (pt m e _) (zx m e _ 0) (l _ d) j f;exact⟨o,Classical.not_not.1 g,Classical.not_not.1 h⟩
theorem Vd{s:cq}(b:(s6 s).2.2≠0):(s6 s).1=q7:=by
 unfold s6 at b⊢;cases i:jl s with
 |err c j=>rfl
 |ok d=>
  rw[i]at b;dsimp only at b⊢;cases e:AD ⟨0,0,d⟩ 0 with
  |bad c j=>rfl
  |ok l k=>
   rw[e]at b;dsimp only at b⊢;split
   ·rfl
   ·rename_i g;rw[if_neg g]at b;split
    ·rfl
    ·rename_i f;rw[if_neg f]at b;split
     ·rfl
     ·rename_i h;rw[if_neg h]at b;exact absurd Z b
theorem Ve{s:cq}(c:s.length<=1500){ts:List Tok}(b:jl s=.ok ts):ts.length<=4097:=by
 unfold jl at b;split at b
 ·cases b
 ·have:=(Ka s _ _ ts om b).2.2.1;omega
def aes:Nat->Bool:=fun b=>aeP b 1000010
theorem Rq(s:cq):bV C ca pQ [cn s] [] fun a _=>a=.ret (bX true):=by
 refine cv aes (fun _=>Z) ?_;refine dx (args:=[]) (x:=.bool true) Z Z ?_;apply aZ<;>intro W
 ·repeat refine de ?_
  exact cU.now Z Z
 repeat refine de ?_
 have an:s.length<=1500:=dq (a:=1500) W;have B:=fun ts ao=>Ve (s:=s) (ts:=ts) an ao;obtain⟨r,aH,ad,H⟩:∃r n G,kR s=(r,n,G):=⟨_,_,_,rfl⟩;obtain⟨X,aF,aw,E⟩:∃X n G,oY s=(X,n,G):=⟨_,_,_,rfl⟩;obtain⟨M,aE,e3,I⟩:∃M n G,s6 s=(M,n,G):=⟨_,_,_,rfl⟩;have g:=Rp (s:=s);have Vr:=Vc (s:=s);have d:=XB B;have c:=Vd (s:=s);rw[H]at g;rw[E]at Vr;rw[I]at d c;have g:ad=0->ft r/\k6 r=false/\ct r<4294967295:=g;have Vr:aw=0->ej X/\r9 X=0/\cP X<4294967294:=Vr;have d:e3=0->Nb M/\mN M=0/\(lG [] M.ds).2=0:=d;have c:e3≠0->M=q7:=c;refine Nu s (fun a k=>?_);rw[F4,H]at k;obtain⟨ax,h,rfl⟩:=k;have h:eZ r ax:=h;obtain⟨w,v,u,t,f1,rfl⟩:=h.cZ;refine M5 s (fun a k=>?_);rw[FX,E]at k;obtain⟨ae,hde,rfl⟩:=k;have hde:je X ae:=hde;obtain⟨k2,m2,n2,x2,u2,t2,l2,d2,rfl⟩:=hde.eight;refine Re s B (fun a k=>?_);rw[Ra,I]at k;obtain⟨ah,j,rfl⟩:=k;have j:At M ah:=j;clear H E I;have p:=j;obtain⟨dis,dds,ay,e,rfl⟩:=j;apply dH (ι:=Unit) (T:=fun _=>[(9,.bp 0 0),(11,bW e3)]) (S:=fun _=>[.box [cn M.p,.d dis,.d dds]]) (I:=fun _=>True)
 ·intro hC;apply aZ<;>intro l
  ·obtain⟨V,ai,U⟩:=g (AJ (b:=0) l);repeat apply cg l
   refine vu r [.int .i64 (abL w),.str v,.str u,t,f1] h V U ?_;rw[show si (k6 r)=0 by rw[ai];rfl];repeat apply cg l
   refine sc _ r [.int .i64 (abL w),.str v,.str u,t,f1] U (aet _) V h ?_;repeat apply cg l
   exact Yj
  ·repeat apply a7 l
   exact Yj
 ·rintro⟨⟩-;apply aZ<;>intro F
  ·have L:e3≠0:=fun G=>by rw[G]at F;cases F
   have z:=c L;have aC:decide (M.p=[])=true:=by rw[z];rfl
   have S:dds=.ci∨∃b n J,dds=.ps b n 31 J []:=by
    rw[z]at e;have e:zn [] dds:=e;cases e with
    |nil=>exact .inl rfl
    |ps ao _=>cases ao;exact .inr ⟨_,_,_,rfl⟩
   rcases S with rfl|⟨b,n,J,rfl⟩;all_goals
    repeat refine de ?_
    exact a8 0 (by rw[aC];rfl)
  ·obtain⟨x,Q,hC⟩:=d (l3 F);have A:=x.ds;have D:gL M.ds<=4096:=by have:1+M.is.length+gL M.ds<=4096:=x.size;omega
   have R:=vp M.ds;refine cC (KX M _ p x Q hC) Z Z ?_;generalize M.ds=K at e A D R;clear j p d c x Q hC;cases e with
   |nil=>
    refine cd.loop ?_;exact a8 0 Z
   |ps P aa=>
    rename_i b n J f;have T:=P.len;refine cD (dB:=[(84,.d (.ps b n 31 J f)),(85,bW f.length),(86,bW 0)]) ?_;refine cd.iter (fun i:Nat=>[(84,.d (.ps b n 31 J f)),(85,bW f.length),(86,bW i)]) (fun _=>[.box [cn M.p,.d dis,.d (.ps b n 31 J f)]]) (fun i=>K.length-i) (fun i=>i<=K.length) ?_ 0 (aev _);intro i ay;apply aZ<;>intro ag
    ·have hi':i<K.length:=T▸ee ag;obtain⟨aL,l,y⟩:=P.get hi';have o:K[i]∈K:=aeu hi';have m:=A _ o;have N:=Nc m (Nat.le_trans (DR o) D);obtain⟨q,O⟩:∃q,q=K[i]:=⟨_,rfl⟩;rw[<-O]at y m N;obtain⟨ps,w,v,u,t,f1,k2,m2,n2,az,f2,au,aq,ar,aD,f3,aA,af,aB,ak,am,t4,ab,d4,W,ap,ac,av,al,rfl⟩:=eK y;have Y:=(ck f i).trans l;refine bZ Z ?_;refine cc _ Y ?_;refine sc _ q.lo (eQ w v u t f1) (show ct q.lo<4294967295 by omega) (aet _) m.lo ap ?_;repeat refine de ?_
     refine sc _ q.up (eQ k2 m2 n2 az f2) (show ct q.up<4294967295 by omega) (aet _) m.up ac ?_;repeat refine de ?_
     refine sc _ q.ty (eQ au aq ar aD f3) (show ct q.ty<4294967295 by omega) (aet _) m.ty av ?_;repeat refine de ?_
     refine E7 _ q.ex [.int .i64 (abL aA),.str af,.str aB,.str ak,.int .i64 am,t4,ab,d4] (show cP q.ex<4294967294 by omega) (aet _) m.ex al ?_;repeat refine de ?_
     exact RJ
    ·exact a8 0 Z
end Go.Proofs.YtpejealjkmhkgaaGreatDoor
