/- Part of the proof. -/
import Derived.Test.YtpejealjkmhkgaaGreatDoorKBl
set_option linter.all false
set_option maxHeartbeats 16000000
set_option maxRecDepth 100000
open List renaming length_nil->abK,length_cons->aet,getElem_mem->aev,cons_append->aeO,nil_append->aeQ
open Int renaming ofNat->abL
open Nat renaming le_refl->aeu,pow_le_pow_right->aeN,zero_le->aeP,add_assoc->aeR
open Bool renaming and_eq_true->aeM,true_and->aeS,and_true->aeT
namespace Go.Proofs.YtpejealjkmhkgaaGreatDoor
open Go.AM Go.VM
def aef(k:Nat)(m n x:cq)(num:Int)(ty c b:D):Prop:=∃j f h i e,eN (.int .i64) (bW k) T9 0=some (some (j,fm f h i e))/\gy k m n x num ty c b (fm f h i e)/\s5 k m n x num ty c b (fm f h i e)
theorem hD(k:Nat):k8 k []:=⟨by simp,List.Pairwise.nil,by simp,by simp⟩
theorem ac9{k:Nat}{m n x:cq}{num:Int}{types:List Ty}{labels:List hZ}{kids:List Ex}{ty p o:D}(h:fB (.mk k m n x num types labels kids))(ht:fA types ty)(b:eR labels p)(c:fR kids o)(e:labels.length<4294967296):aef k m n x num ty p o:=by
 have i:([]:List hZ).length<4294967296:=dc;cases h with
 |int=>obtain rfl:=ht.cS;exact⟨0,_,_,_,_,rfl,fits_int _ b c,acZ b i (hD 0)⟩
 |text=>obtain rfl:=ht.cS;exact⟨1,_,_,_,_,rfl,QE _ b c,ac0 b i (hD 1)⟩
 |bool=>obtain rfl:=ht.cS;exact⟨2,_,_,_,_,rfl,fits_bool _ b c,ac1 b i (hD 2)⟩
 |loc f=>obtain rfl:=ht.cS;exact⟨3,_,_,_,_,rfl,Ub _ b c,ac2 f b i (hD 3)⟩
 |val q f _ _=>exact⟨4,_,_,_,_,rfl,Uc _ _ _ b c,ac3 q f b i (hD 4)⟩
 |Rz j l=>obtain rfl:=ht.cS;exact⟨5,_,_,_,_,rfl,Up b e j c om,ac4 b e j⟩
 |WO f=>obtain rfl:=ht.cS;exact⟨6,_,_,_,_,rfl,QF _ b c,ac5 f b i (hD 6)⟩
 |inj f=>obtain rfl:=ht.cS;exact⟨7,_,_,_,_,rfl,Ud _ b c,ac6 f b i (hD 7)⟩
 |func j l=>obtain rfl:=ht.cS;exact⟨8,_,_,_,_,rfl,QU b e j c l,ac7 b e j⟩
 |call j l=>obtain rfl:=ht.cS;exact⟨9,_,_,_,_,rfl,QT b e j c om,ac8 b e j⟩
 |WQ f=>obtain rfl:=ht.cS;exact⟨10,_,_,_,_,rfl,QP _ b c,abl f b i (hD 10)⟩
 |asc _=>exact⟨11,_,_,_,_,rfl,Uk ht b c,abm b i (hD 11)⟩
 |cond _=>exact⟨12,_,_,_,_,rfl,QQ ht b c,abn b i (hD 12)⟩
 |mat _ j l=>exact⟨13,_,_,_,_,rfl,Uq ht b e j c om,abo b e j⟩
 |lst _=>exact⟨14,_,_,_,_,rfl,Ul ht b c,abp b i (hD 14)⟩
 |fold _ f s=>exact⟨15,_,_,_,_,rfl,QR _ _ ht b c,abq f s b i (hD 15)⟩
 |one f=>obtain rfl:=ht.cS;exact⟨16,_,_,_,_,rfl,Um f b c,Uo b i (hD 16)⟩
 |two f=>obtain rfl:=ht.cS;exact⟨16,_,_,_,_,rfl,Un f b c,Uo b i (hD 16)⟩
theorem fB.Ue{k:Nat}{m n x:cq}{num:Int}{types:List Ty}{labels:List hZ}{kids:List Ex}(h:fB (.mk k m n x num types labels kids)):k8 k labels:=by
 cases h<;>first|exact hD _|assumption
theorem fB.ada{k:Nat}{m n x:cq}{num:Int}{types:List Ty}{labels:List hZ}{kids:List Ex}(h:fB (.mk k m n x num types labels kids))(b:k=8):types=[]:=by
 cases h<;>first|rfl|omega
variable{g:Ex}
theorem fB.all(h:fB g):∀b∈k7 g,ft b:=by
 have i:∀{k:Nat} {labels:List hZ},k8 k labels->∀b∈(if k=8 then labels.map hZ.ty else []),ft b:=fun{k labels} c b ht=>by
  split at ht
  ·rename_i e;obtain⟨x,j,rfl⟩:=List.mem_map.1 ht;have:=c.ty x j;rwa[if_pos e]at this
  ·simp at ht
 obtain⟨k,m,n,x,num,types,labels,kids⟩:=g;intro b ht;rw[k7]at ht;rcases List.mem_append.1 ht with h1|h1
 ·cases h<;>first|(simp at h1;done)|(simp at h1;subst h1;assumption)|(rename_i f _;exact f b h1)
 ·exact i h.Ue b h1
def oX:Ex->Nat
 |.mk k m n x num types labels kids=>if 32<labels.length∨8<types.length∨65536<x.length then 7 else if k=15/\n=x then 5 else si ((types++if k=8 then labels.map hZ.ty else []).any k6)
section
variable{k:Nat} {m n x:cq} {num:Int} {types:List Ty} {labels:List hZ} {kids:List Ex}
theorem E3(h:32<labels.length∨8<types.length∨65536<x.length):oX (.mk k m n x num types labels kids)=7:=by rw[oX,if_pos h]
theorem DJ(h:¬(32<labels.length∨8<types.length∨65536<x.length))(b:k=15)(c:n=x):oX (.mk k m n x num types labels kids)=5:=by rw[oX,if_neg h,if_pos ⟨b,c⟩]
theorem FV(h:¬(32<labels.length∨8<types.length∨65536<x.length))(b:¬(k=15/\n=x)):oX (.mk k m n x num types labels kids)=si ((k7 (.mk k m n x num types labels kids)).any k6):=by rw[oX,if_neg h,if_neg b,k7]
end
variable{u:D}
theorem fA.inv{l:List Ty}(h:fA l u):(l=[]/\u=.ci)∨∃c f e b,u=.ps c f 5 e b/\dz l b:=by
 cases h with
 |nil=>exact .inl ⟨rfl,rfl⟩
 |ps h _=>exact .inr ⟨_,_,_,_,rfl,h⟩
def adb:Nat->Bool:=fun b=>Nat.beq b 1000008||Nat.beq b 1000013
def OU(k:Nat)(m n x:cq)(num:Int)(ty b c:D)(s:cq)(t:Int)(l:Bool)(f:Int):VS:=[HL,.box (ky k m n x num ty b c),.box [cn s,.d (.int .i64 t),bX l,.d (.int .i64 f)]]
variable{d:Nat}
theorem Kw{l:List Ty}(h:d<l.length)(b:k6 l[d]=true):l.any k6=true:=List.any_eq_true.2 ⟨_,aev h,b⟩
theorem any_none{l:List Ty}(h:∀c (b:c<l.length),k6 l[c]=false):l.any k6=false:=by
 rw[List.any_eq_false];intro e ht;obtain⟨c,b,rfl⟩:=List.mem_iff_getElem.1 ht;rw[h c b];decide
theorem M1{k:Nat}{m n x:cq}{num:Int}{types:List Ty}{labels:List hZ}{kids:List Ex}{ty lb kd:D}(h:fB (.mk k m n x num types labels kids))(ht:fA types ty)(hl:eR labels lb)(hk:fR kids kd)(F:types.length+labels.length<4294967296)(hsz:cy (k7 (.mk k m n x num types labels kids))<4294967295):
  bV C ca yP [Ua k m n x num ty lb kd,.map 0] [HL] fun X N=>N=[HL]/\cM X=true/\X=.ret (bW (oX (.mk k m n x num types labels kids))):=by
 have hex:je (.mk k m n x num types labels kids) [.int .i64 (abL k),.str m,.str n,.str x,.int .i64 num,ty,lb,kd]:=.mk ht hl hk;obtain⟨i,s,t,l,f,hfi,Z9,Z8⟩:=ac9 h ht hl hk om;have hw:=h.Ue;have Vn:=h.all;have h8:=h.ada;refine cv adb (fun _=>Z) ?_;refine cc (some (i,fm s t l f)) hfi ?_;refine cC Z9 Z Z ?_;apply dH (ι:=Unit) (T:=fun _=>[(2,.bp 1 0)]) (S:=fun _=>OU k m n x num ty lb kd s t l f) (I:=fun _=>¬(32<labels.length∨8<types.length∨65536<x.length))
 ·intro hC;rcases hl.inv with⟨B,zG⟩|⟨b,Q,af,q,zG,I⟩
  ·have H:labels.length=0:=by rw[B];rfl
   rcases ht.inv with⟨o,wi⟩|⟨U,R,T,E,wi,w⟩
   ·have e:types.length=0:=by rw[o];rfl
    exact RO
   ·have e:=w.len;exact RO
  ·have H:=I.len;rcases ht.inv with⟨o,wi⟩|⟨U,R,T,E,wi,w⟩
   ·have e:types.length=0:=by rw[o];rfl
    exact RO
   ·have e:=w.len;exact RO
 ·intro _ p;refine DC _ labels hl om hw.srt ?_;apply dH (ι:=Unit) (T:=fun _=>[(2,.bp 1 0)]) (S:=fun _=>OU k m n x num ty lb kd s t l f) (I:=fun _=>¬(k=15/\n=x))
  ·intro hC;apply aZ<;>intro L
   ·repeat refine de ?_
    apply aZ<;>intro J
    ·repeat refine de ?_
     exact a8 1 ⟨Z,Z,congrArg (fun v=>cO.ret (bW v)) (DJ p (AJ (b:=15) L) (of_decide_eq_true J)).symm⟩
    ·repeat refine de ?_
     exact cw (dB:=[(2,.bp 1 0)]) (fU:=OU k m n x num ty lb kd s t l f) .eS (hC () (fun G=>of_decide_eq_false J G.2))
   ·repeat refine de ?_
    exact cw (dB:=[(2,.bp 1 0)]) (fU:=OU k m n x num ty lb kd s t l f) .eS (hC () (fun G=>ED (b:=15) L G.1))
  ·intro _ y;rw[FV p y];refine Km _ _ hex (fun _ _ _ _ _ _ _ _ W=>by cases W;exact h8) om (fun _ _ _ _ _ _ _ _ W=>by cases W;exact F) (fun u O=>?_);generalize k7 (.mk k m n x num types labels kids)=own at O Vn hsz;have Y:=dA own;cases O with
   |nil=>
    refine cd.loop ?_;exact a8 1 ⟨Z,Z,Z⟩
   |ps M=>
    rename_i b Q z q;have K:=M.len;refine cd.less (dB:=[(65,.d (.ps b Q 5 z q)),(66,bW own.length),(67,bW 0)]) ⟨Z,int_eq (by rw[K]),Z,tv⟩ ?_;refine cd.iter (fun i:Nat=>[(65,.d (.ps b Q 5 z q)),(66,bW own.length),(67,bW i)]) (fun _=>OU k m n x num ty lb kd s t l f) (fun i=>own.length-i) (fun i=>i<=own.length/\∀j (hj:j<own.length),j<i->k6 own[j]=false) ?_ 0 ⟨aeP _,fun j _ h=>absurd h (Nat.not_lt_zero _)⟩;rintro i ⟨ac,hno⟩;apply aZ<;>intro P
    ·have c:i<own.length:=ee P;obtain⟨u,V,A⟩:=M.get c;obtain⟨ad,r,a,ae,f2,rfl⟩:=A.cZ;refine bZ Z ?_;refine cc _ (by rw[ck];exact V) ?_;have B:=dJ (aev c);refine qb own[i] _ A (Vn _ (aev c)) om ?_;cases hb:k6 own[i]with
     |true=>exact a8 1 ⟨rfl,rfl,by rw[Kw c hb];rfl⟩
     |false=>
      refine⟨i+1,⟨c,fun j hj d=>?_⟩,iK,.eD 3,Z,Z⟩;exact aeC
    ·have c:own.length<=i:=dq P;exact a8 1 ⟨Z,Z,by rw[any_none fun j hj=>hno j hj om];rfl⟩
theorem ej.kids{b:Ex}(h:ej b):∀x∈b.kids,ej x:=by cases h with|mk _ h=>exact h
theorem ej.node(h:ej g):fB g:=by cases h with|mk h _=>exact h
def DK(b:Nat)(c:Ex):Nat ⊕ Empty:=.inl (b+(1+cy (k7 c)))
theorem abr:∀(n:Nat) (c:Ex) (b:Nat),cP c<=n->jj DK c b=.inl (b+cP c):=by
 intro n;induction n with
 |zero=>intro c b h;have:=gP c;omega
 |succ n j=>
  intro c b h;have i:=fJ c;rw[ou];show fx DK c.kids (b+(1+cy (k7 c)))=_;have:∀(e:List Ex) (b:Nat),cQ e<=n->fx DK e b=.inl (b+cQ e):=by
   intro e;induction e with
   |nil=>intro b _;rfl
   |cons l e f=>
    intro b k;rw[cQ]at k⊢;rw[fx,j l b om];show fx DK e (b+cP l)=_;rw[f _ om,aeR]
  rw[this _ _ om,i];congr 1;omega
def aeg:Nat ⊕ Empty->Nat
 |.inl n=>n
 |.inr _=>0
theorem wb{k:Nat}{m n x:cq}{num:Int}{types:List Ty}{labels:List hZ}{kids:List Ex}(h:ej g)(he:g=.mk k m n x num types labels kids)(l:cP g<4294967296):types.length+labels.length<4294967296:=by
 subst he;have e:=fJ (.mk k m n x num types labels kids);have j:=ju kids;have b:=dA (k7 (.mk k m n x num types labels kids));rw[k7,List.length_append]at b;rw[k7]at e;rw[Ex.kids]at e;have f:=h.node;cases f
 case Rz _ c=>simp only[abK];omega
 case func i c=>rw[if_pos rfl]at e b;rw[List.length_map]at b;simp only[abK]at b⊢;omega
 case call _ c=>simp only[abK];omega
 case mat _ c=>simp only[aet,abK];omega
 all_goals simp only[abK,aet]at b⊢;omega
theorem WY{b:cH}(c:je g b)(h:ej g)(f:cP g<4294967296){σ:VS}{K:cO->VS->Prop}(e:∀b,Ii (k7 g) b->K (.ret (.d b)) σ):bV C ca sH [.agg (b.map V.d)] σ K:=by
 have i:=fJ g;exact Km g b c (fun _ _ _ _ _ _ _ _ he=>by subst he;exact h.node.ada) om (fun _ _ _ _ _ _ _ _ he=>wb h he f) e
theorem Ii.inv{l:List Ty}(h:Ii l u):(l=[]/\u=.ci)∨∃c f e b,u=.ps c f 5 e b/\dz l b:=by
 exact XM
def OG(b:ki):ki:={b with state:=.busy}
def abt(c:List V)(b:ki)(x:Nat ⊕ Empty):Ob3:=⟨.box c,.box [bW (aeg x)],.box c,b⟩
variable{a:List V} {r:VS}
theorem ade{s:Ob3}(h:fu 0 a=true)(b:(fW 8 s.o0&&(fW 8 s.o1&&(fW 8 s.o2&&fW 8 (.loop s.L))))=true):mJ 8 (W3 s++.box a::r) 8=true:=by
 simp only[aeM]at b;obtain⟨f,e,c,i⟩:=b;simp only[W3,aeO,aeQ,mJ,f,e,c,i,aeS,aeT];rw[show fW 8 (.box a)=fu 8 a from rfl,gx 8 a h];rfl
theorem adf{s:Ob3}{b:List V}(h:fu 0 a=true)(f:fu 0 b=true)(e:(fW 9 s.o0&&(fW 9 s.o1&&(fW 9 s.o2&&fW 9 (.loop s.L))))=true):mJ 9 (W3 s++.box a:: .box b::r) 9=true:=by
 simp only[aeM]at e;obtain⟨j,i,c,k⟩:=e;simp only[W3,aeO,aeQ,mJ,j,i,c,k,aeS,aeT];rw[show fW 9 (.box a)=fu 9 a from rfl,gx 9 a h,show fW 9 (.box b)=fu 9 b from rfl,gx 9 b f];rfl
theorem Kx(A:Ex)(X:cH)(B:je A X)(N:ej A)(ar:cP A<4294967295):bV C ca qO [.agg (X.map V.d)] [] fun ad J=>J=[]/\ad=.ret (bW (cP A)):=by
 obtain⟨k,m,o,q,num,ty,s,p,rfl⟩:=B.eight;refine cm ?_;refine cj ?_;refine cj ?_;refine(abj (step:=DK) (B:=fun n=>n) (Good:=ej) (S:=abt (ky k m o q num ty s p) ?Q) (fun A h=>h.kids) ?_ ?_ ?_ ?_ _ A _ 0 (aeu _) B N om).mono (fun ad J h=>?_)
 ·intro x;exact rfl
 ·intro x v E h;exact ade h Z
 ·intro w A ap h;cases h;exact aeu _
 ·intro w A X v al B N Y g D _;have d:=fJ A;have g:w+cP A<4294967296:=g;obtain⟨z,y,e,i,b,l,j,c,rfl⟩:=B.eight;refine iA.intro ?_;refine WY B N om (fun X a=>?_);have D:=D _ rfl;generalize k7 A=own at a d D;have T:∀(P:Int) (E:VS),P=abL (w+(1+cy own))->al (.ret (bX true)) (W3 ⟨.box (ky k m o q num ty s p),.box [.d (.int .i64 P)],.box (ky k m o q num ty s p),?Q⟩++.box v::E):=by
   rintro _ E rfl;exact D E
  have I:IntKind.i64.wrap (abL w+1)=abL (w+1):=cp om;rcases a.inv with⟨M,rfl⟩|⟨ac,af,H,K,rfl,W⟩
  ·refine cd.loop ?_;have O:=T (IntKind.i64.wrap (abL w+1)) [.box (ky z y e i b l j c)] (by rw[I,M,cy]);exact O
  ·have U:=W.len;have ae:=dA own;have aa:abL (w+1)=abL (w+1+cy (own.take 0)):=by rw[List.take_zero,cy]
   refine cw (dB:=[(3,.bp 1 0),(13,.d (.ps ac af 5 H K)),(14,bW own.length),(15,bW 0)]) (fU:=W3 (abt (ky k m o q num ty s p) (OG ?Q) (.inl (w+1+cy (own.take 0))))++[.box v,.box (ky z y e i b l j c)]) (.same ⟨Z,Z,int_eq (by rw[U]),Z,tv⟩ (congrArg (fun P=>W3 ⟨.box (ky k m o q num ty s p),.box [V.d (.int .i64 P)],.box (ky k m o q num ty s p),OG ?Q⟩++[.box v,.box (ky z y e i b l j c)]) (I.trans aa))) ?_;refine cd.iter (fun t:Nat=>[(3,.bp 1 0),(13,.d (.ps ac af 5 H K)),(14,bW own.length),(15,bW t)]) (fun t=>W3 (abt (ky k m o q num ty s p) (OG ?Q) (.inl (w+1+cy (own.take t))))++[.box v,.box (ky z y e i b l j c)]) (fun t=>own.length-t) (fun t=>t<=own.length) ?_ 0 (aeP _);have u:fu 0 v=true:=Y;intro t aq;apply aZ<;>intro r
   ·have f:t<own.length:=ee r;obtain⟨X,F,L⟩:=W.get f;obtain⟨an,am,ah,ao,f3,rfl⟩:=L.cZ;have G:=F;rw[<-ck]at G;have ak:=dJ (aev f);have R:=qZ f;have ag:=mE own (t+1);have ab:=c4 (a:=w+1+cy (own.take t)) (b:=ct own[t]) om;have S:abL (w+1+cy (own.take t)+ct own[t])=abL (w+1+cy (own.take (t+1))):=by rw[R,<-aeR]
    refine bZ Z ?_;refine cc _ G ?_;repeat refine ch ?_
    refine nF own[t] _ L om ?_;repeat refine ch ?_
    refine⟨t+1,f,iK,.drop 9 ⟨Z,Z,Z,int_eq (cp om),tv⟩ Z Z ?_ Z Z Z ?_,Z,Z⟩
    ·exact adf u Z Z
    ·exact congrArg (fun P=>W3 ⟨.box (ky k m o q num ty s p),.box [V.d (.int .i64 P)],.box (ky k m o q num ty s p),OG ?Q⟩++[.box v,.box (ky z y e i b l j c)]) (ab.trans S)
   ·have f:own.length<=t:=dq r;rw[List.take_of_length_le f];have O:=T (abL (w+1+cy own)) [.box (ky z y e i b l j c)] (by rw[aeR]);exact O
 ·obtain⟨x,F,rfl,rfl⟩:=h;rw[abr _ A 0 (aeu _)]at F;subst F;exact a8 0 ⟨Z,congrArg (fun n=>cO.ret (bW n)) (Nat.zero_add _)⟩
theorem DL(c:Ex)(i:cH)(b:je c i)(f:ej c)(h:cP c<4294967295){σ:VS}{K:cO->VS->Prop}(e:K (.ret (bW (cP c))) σ):bV C ca qO [.agg (i.map V.d)] σ K:=by
 obtain⟨k,m,j,n,num,ty,o,l,rfl⟩:=b.eight;exact cC (Kx c _ b f h) Z Z e
def jd(_:Unit)(b:Ex):Unit ⊕ Nat:=if oX b=0 then .inl ()else .inr (oX b)
def ZX:Unit ⊕ Nat->Nat
 |.inl _=>0
 |.inr n=>n
def r9(b:Ex):Nat:=if 4096<cP b∨32<mG b then 7 else ZX (jj jd b ())
def ckL(b:ki):Unit ⊕ Nat->ki
 |.inl _=>b
 |.inr _=>Oy b
def aeh(c:List V)(b:ki)(x:Unit ⊕ Nat):Ob5:=⟨.box c,.box [bW (ZX x)],HL,.box [.map 2],.box c,ckL b x⟩
theorem abu{s:Ob5}(h:fu 0 a=true)(b:(fW 10 s.o0&&(fW 10 s.o1&&(fW 10 s.o2&&(fW 10 s.o3&&(fW 10 s.o4&&fW 10 (.loop s.L))))))=true):mJ 10 (W5 s++.box a::r) 10=true:=by
 simp only[aeM]at b;obtain⟨i,f,c,j,e,k⟩:=b;simp only[W5,aeO,aeQ,mJ,i,f,c,j,e,k,aeS,aeT];rw[show fW 10 (.box a)=fu 10 a from rfl,gx 10 a h];rfl
theorem HR(c:Ex)(N:cH)(e:je c N)(n:ej c)(D:cP c<4294967295):bV C ca pT [.agg (N.map V.d)] [] fun H v=>v=[]/\H=.ret (bW (r9 c)):=by
 obtain⟨k,m,I,P,num,ty,Q,K,rfl⟩:=e.eight;refine cm ?_;refine DL c _ e n D ?_;apply aZ<;>intro B
 ·repeat refine de ?_
  exact a8 0 ⟨Z,by rw[r9,if_pos (.inl (ee (a:=4096) B))];rfl⟩
 repeat refine de ?_
 refine Kl _ c _ D (aeu _) e ?_;repeat refine de ?_
 apply aZ<;>intro A
 ·repeat refine de ?_
  exact a8 0 ⟨Z,by rw[r9,if_pos (.inr (ee (a:=32) A))];rfl⟩
 repeat refine de ?_
 have E:r9 c=ZX (jj jd c ()):=by
  have:=dq (a:=4096) B;have:=dq (a:=32) A;rw[r9,if_neg om]
 rw[E];refine cj ?_;refine cc none Z (cc none Z (cc none Z (cc none Z (cc none Z (cc none Z (cc none Z (cc none Z ?_)))))));refine cc none Z (cc none Z (cc none Z (cc none Z (cc none Z (cc none Z (cc none Z (cc none Z (cc none Z ?_))))))));refine cj ?_;refine cj ?_;refine(abk (step:=jd) (B:=fun _=>0) (Good:=ej) (S:=aeh (ky k m I P num ty Q K) ?g) (fun c h=>h.kids) ?_ ?_ ?_ ?_ _ c _ () (aeu _) e n om).mono (fun H v h=>?_)
 ·intro x;cases x<;>exact rfl
 ·intro x M W h;exact abu h (by cases x<;>exact rfl)
 ·intro X c Y h;exact aeP _
 ·intro X c N M d e n T F G S;refine iA.intro ?_;cases e with
  |mk ht O L=>
   rename_i l f j i b types labels kids t p q;have U:=fJ (.mk l f j i b types labels kids);have F:0+cP (.mk l f j i b types labels kids)<4294967296:=F;have z:=M1 n.node ht O L (wb n rfl om) om;refine MO z 2 Z Z Z Z (fun H h=>?_);subst h;apply aZ<;>intro w
   ·have o:oX (.mk l f j i b types labels kids)≠0:=fun c=>by rw[c]at w;cases w
    have y:=S _ (by rw[jd,if_neg o]) [.box (ky l f j i b t p q)];exact y
   ·have o:oX (.mk l f j i b types labels kids)=0:=l3 w;have y:=G () (by rw[jd,if_pos o]) [.box (ky l f j i b t p q)];exact y
 ·obtain⟨x,R,rfl,rfl⟩:=h;rw[R];cases x with
  |inl u=>exact a8 0 ⟨rfl,rfl⟩
  |inr s=>exact a8 0 ⟨rfl,rfl⟩
theorem Bi(c:Ex)(i:cH)(b:je c i)(f:ej c)(h:cP c<4294967295){σ:VS}{K:cO->VS->Prop}(e:K (.ret (bW (r9 c))) σ):bV C ca pT [.agg (i.map V.d)] σ K:=by
 obtain⟨k,m,j,n,num,ty,o,l,rfl⟩:=b.eight;exact cC (HR c _ b f h) Z Z e
def aei(c:UInt8):Nat:=c.toNat-48
def WZ(b:Nat)(l:cq):Nat:=l.foldl (fun e c=>e*10+aei c) b
theorem Ky{c:UInt8}(h:isDigit c=true):48<=c.toNat/\c.toNat<=57:=by
 exact aeK
theorem M2:∀(c:cq) (b k:Nat),c.all isDigit=true->k+c.length<=19->b<10^k->Lib.parseUintM (2^64-1) b c=.ok (WZ b c)/\WZ b c<10^(k+c.length):=by
 intro c;induction c with
 |nil=>intro b k _ _ h;exact⟨rfl,h⟩
 |cons q p j=>
  intro b k e i v;rw[List.all_cons,aeM]at e;obtain⟨m,l⟩:=Ky e.1;rw[aet]at i;have t:10^k<=10^18:=aeN dc om;have o:b*10+(q.toNat-48)<10^(k+1):=by rw[Nat.pow_succ];omega
  have s:10^(k+1)<=10^19:=aeN dc om;obtain⟨f,n⟩:=j (b*10+(q.toNat-48)) (k+1) e.2 om o;refine⟨?_,?_⟩
  ·rw[Lib.parseUintM,if_pos ⟨m,l⟩,if_neg om,if_neg om];exact f
  ·rw[aet,show k+(p.length+1)=k+1+p.length from by omega];exact n
theorem M3{l:cq}(c:l.all isDigit=true)(e:l.length<=19)(b:l≠[]):Lib.parseUintB 64 l=.ok (WZ 0 l)/\WZ 0 l<10^19:=by
 obtain⟨h,f⟩:=M2 l 0 0 c om dc;rw[Lib.parseUintB,if_neg b];refine⟨h,Nat.lt_of_lt_of_le f (aeN dc om)⟩
def adg(t:Tok):Prop:=t.kind=3->t.text.all isDigit=true/\t.text.length<=19/\t.text≠[]
theorem Ur{l t:cq}{k n:Nat}(h:oa l=.ok k t n):k=3->t.all isDigit=true/\t.length<=19/\t≠[]:=by
 cases l with
 |nil=>cases h
 |cons i f=>
  rw[oa]at h;split at h
  ·unfold nM at h;split at h
   ·cases h;omega
   ·split at h
    ·cases h;omega
    ·split at h
     ·cases h;omega
     ·cases h
  ·split at h
   ·rename_i c;have b:=QO isDigit (i::f);unfold mZ at h;split at h
    ·cases h
    ·rename_i j;cases h;refine fun _=>⟨b,om,fun e=>?_⟩;rw[p5,if_pos c]at e;simp at e
   ·split at h
    ·split at h
     ·cases h;omega
     ·cases h
    ·split at h
     ·cases h
     ·cases h;omega
theorem QV(s:cq):∀(f b:Nat) (i:List Tok),jF s f b=.ok i->∀l∈i,adg l:=by
 intro f;induction f with
 |zero=>intro b i h;cases h;simp
 |succ f j=>
  intro b i h;rw[jF]at h;split at h
  ·cases h;intro l ht;simp at ht;subst ht;exact fun h=>by simp at h
  ·cases ht:oa (s.drop b)with
   |err t=>rw[ht]at h;cases h
   |ok k l n=>
    rw[ht]at h;dsimp only at h;cases e:jF s f (b+n+dZ false (s.drop (b+n)))with
    |err q p=>rw[e]at h;cases h
    |ok o=>
     rw[e]at h;cases h;intro m c;rcases List.mem_cons.1 c with rfl|c
     ·exact Ur ht
     ·exact j _ _ e m c
theorem QW{s:cq}{R:Rd}(h:jl s=.ok R.ts):∀p,adg (R.tok p):=by
 intro p;by_cases b:p<R.ts.length
 ·unfold jl at h;split at h
  ·cases h
  ·exact QV s _ _ _ h _ (List.mem_of_getElem? (bY b))
 ·rw[Rd.tok,List.getElem?_eq_none om];exact fun h=>by simp at h
theorem Kz{s:cq}{R:Rd}(h:jl s=.ok R.ts):R.Ng:=by
 intro p b;obtain⟨c,f,e⟩:=QW h p b;exact⟨⟨_,(M3 c f e).1⟩,om⟩
section
variable{R R':Rd} (h:R.ts=R'.ts)
include h
theorem kw(p:Nat):dh R p=dh R' p:=by rw[dh,dh,eb h]
theorem AC(b:List eo)(p:Nat):eJ R b p=eJ R' b p:=by rw[eJ,eJ,eb h]
theorem Cb(ex:Nat->PR Ex)(s:cq)(p:Nat):fj ex R s p=fj ex R' s p:=by rw[fj,fj,jc h]
theorem Us{e:Type}{step b:e->Nat->PR e}(k:∀f p,step f p=b f p)(c:cq):∀(i:Nat) (f:e) (p:Nat),ji step R c i f p=ji b R' c i f p:=by
 intro i;induction i with
 |zero=>intro f p;rfl
 |succ i j=>intro f p;simp only[ji,k,eb h,jc h,j]
theorem zz{e:Type}{step b:e->Nat->PR e}(i:∀f p,step f p=b f p)(c:cq)(f:e)(p:Nat):gA step R c f p=gA b R' c f p:=by
 rw[gA,gA,eb h,Us h i,h]
theorem Ut(ex:Nat->PR Ex)(b:List eo)(p:Nat):lP ex R b p=lP ex R' b p:=by simp only[lP,AC h,Cb h]
theorem Uu(ex:Nat->PR Ex)(b:List eo)(p:Nat):ks ex R b p=ks ex R' b p:=by simp only[ks,AC h,Cb h,kw h]
theorem Uv(ty:Nat->PR Ty)(ex:Nat->PR Ex)(b:List eo)(p:Nat):jW ty ex R b p=jW ty ex R' b p:=by simp only[jW,AC h,jc h,eb h]
theorem FW(ex:Nat->PR Ex)(b:cq)(k:Nat)(kids:List Ex)(p:Nat):jP ex R b k kids p=jP ex R' b k kids p:=by rw[jP,jP,zz h (Ut h ex)]
theorem OH(b p:Nat):sT b R p=sT b R' p:=by simp only[sT,eb h]
theorem W0{fn c:Nat->PR Ex}(f:∀p,fn p=c p)(b:List cq):∀(e:Nat) (x:Ex) (p:Nat),zf fn b R e x p=zf c b R' e x p:=by
 intro e;induction e with
 |zero=>intro x p;rfl
 |succ e i=>intro x p;simp only[zf,eb h,f,i]
theorem Cc{fn b:Nat->PR Ex}(e:∀p,fn p=b p)(c:List cq)(p:Nat):oH fn c R p=oH b c R' p:=by
 simp only[oH,e,W0 h e,h]
theorem QX(ty:Nat->PR Ty)(s:cq)(p:Nat):iH ty R s p=iH ty R' s p:=by simp only[iH,eb h,kw h,Kt h]
theorem Uw(ty:Nat->PR Ty)(ex:Nat->PR Ex)(p:Nat):gd ty ex R p=gd ty ex R' p:=by
 have c:∀b e p,gA (oc ex) R b e p=gA (oc ex) R' b e p:=zz h fun _ _=>rfl;simp only[gd,eb h,OH h,QX h,FW h,kw h,Cb h,jc h,c]
theorem Ux(ex:Nat->PR Ex):∀(b:Nat) (x:Ex) (p:Nat),p8 ex R b x p=p8 ex R' b x p:=by
 intro b;induction b with
 |zero=>intro x p;rfl
 |succ b c=>intro x p;simp only[p8,eb h,kw h,FW h,c]
theorem Uy(ty:Nat->PR Ty)(ex:Nat->PR Ex)(p:Nat):od ty ex R p=od ty ex R' p:=by simp only[od,Uw h,Ux h,h]
theorem W1(ty:Nat->PR Ty)(ex:Nat->PR Ex):∀(b p:Nat),tP ty ex R b p=tP ty ex R' b p:=by
 intro b;induction b with
 |zero=>intro p;rfl
 |succ b c=>intro p;simp only[tP,eb h,OH h,Uy h,c]
theorem W2(ty:Nat->PR Ty)(ex:Nat->PR Ex)(p:Nat):wX ty ex R p=wX ty ex R' p:=by
 have b:R.ts.length=R'.ts.length:=by rw[h]
 refine Cc h (fun p=>?_) _ p;refine Cc h (fun p=>?_) _ p;rw[b];exact W1 h ty ex _ p
theorem W4(ty:Nat->PR Ty)(ex:Nat->PR Ex):∀(b p:Nat),qj ty ex R b p=qj ty ex R' b p:=by
 intro b;induction b with
 |zero=>intro p;rfl
 |succ b c=>intro p;simp only[qj,eb h,W2 h,c]
theorem abv(ty:Nat->PR Ty)(ex:Nat->PR Ex)(p:Nat):Wo ty ex R p=Wo ty ex R' p:=by
 have b:R.ts.length=R'.ts.length:=by rw[h]
 refine Cc h (fun p=>?_) _ p;refine Cc h (fun p=>?_) _ p;rw[b];exact W4 h ty ex _ p
theorem Uz:∀(b:Nat),Ih R b=Ih R' b:=by
 intro b;induction b with
 |zero=>rfl
 |succ b c=>
  funext p;have ht:dl R R.ts.length=dl R' R'.ts.length:=by rw[h];exact HM h _
  rw[Ih,Ih,c,ht];simp only[ET,eb h,xI,oT,mz,lQ,funcF,kw h,Cb h,Bh h,jc h,zz h (Uu h _),zz h (Uv h _ _),abv h]
end
def w7:Ex:=.mk 0 [] [] [] 0 [] [] []
theorem W6:je w7 [.int .i64 (abL 0),.str [],.str [],.str [],.int .i64 0,.ci,.ci,.ci]:=.mk .nil .nil .nil
def oY(s:cq):Ex×Nat×Nat:=match jl s with
 |.err b c=>(w7,b,c)
 |.ok ts=>match Ih ⟨0,0,ts⟩ ts.length 0 with
  |.bad b c=>(w7,b,c)
  |.ok x e=>if(Rd.tok ⟨0,0,ts⟩ e).kind≠0 then(w7,(Rd.tok ⟨0,0,ts⟩ e).off,3)else if r9 x≠0 then(w7,0,r9 x)else(x,0,0)
theorem PR.E.of{e b:Type}{x:PR e}{o i:Nat}(h:x=.bad o i)(f:x.E):(PR.bad o i:PR b).E:=fun _ _ c=>by
 cases c;exact f _ _ h
theorem wc(R:Rd)(p:Nat):(dh R p).E:=by
 unfold dh;split
 ·exact .bad dc
 ·exact .ok
theorem DM(R:Rd)(b:List eo)(p:Nat):(eJ R b p).E:=by
 unfold eJ;split
 ·exact .bad dc
 ·split
  ·exact .bad dc
  ·exact .ok
theorem rz{ex:Nat->PR Ex}(he:∀p,(ex p).E)(R:Rd)(s:cq)(p:Nat):(fj ex R s p).E:=by
 unfold fj;split
 ·exact .of ‹_› (iv R _ _)
 ·exact he _
theorem W7{b:Type}{step:b->Nat->PR b}(i:∀e p,(step e p).E)(R:Rd)(c:cq):∀(f:Nat) (e:b) (p:Nat),(ji step R c f e p).E:=by
 intro f;induction f with
 |zero=>intro e p;exact .bad dc
 |succ f h=>
  intro e p;rw[ji];split
  ·exact .of ‹_› (i _ _)
  ·split
   ·exact .ok
   ·split
    ·exact .of ‹_› (iv R _ _)
    ·exact h _ _
theorem Cd{c:Type}{step:c->Nat->PR c}(f:∀e p,(step e p).E)(R:Rd)(b:cq)(e:c)(p:Nat):(gA step R b e p).E:=by
 unfold gA;split
 ·exact .ok
 ·exact W7 f R b _ _ _
section
variable{ty:Nat->PR Ty} {ex:Nat->PR Ex} (ht:∀p,(ty p).E) (he:∀p,(ex p).E) (R:Rd)
include he
theorem W8(b:List eo)(p:Nat):(lP ex R b p).E:=by
 unfold lP;split
 ·exact .of ‹_› (DM R _ _)
 ·exact .map (rz he R _ _)
theorem W9(b:List eo)(p:Nat):(ks ex R b p).E:=by
 unfold ks;split
 ·exact .of ‹_› (DM R _ _)
 ·split
  ·exact .of ‹_› (wc R _)
  ·exact .map (rz he R _ _)
theorem KA(b:cq)(k:Nat)(kids:List Ex)(p:Nat):(jP ex R b k kids p).E:=.map (Cd (W8 he R) R _ _ _)
theorem abw(p:Nat):(xI ex R p).E:=by
 unfold xI;split
 ·exact .of ‹_› (wc R _)
 ·split
  ·exact .of ‹_› (rz he R _ _)
  ·exact .map (rz he R _ _)
theorem abx(b:List cq):∀(c:Nat) (x:Ex) (p:Nat),(zf ex b R c x p).E:=by
 intro c;induction c with
 |zero=>intro x p;exact .bad dc
 |succ c e=>
  intro x p;rw[zf];split
  ·exact .ok
  ·split
   ·exact .of ‹_› (he _)
   ·exact e _ _
theorem HS(b:List cq)(p:Nat):(oH ex b R p).E:=by
 unfold oH;split
 ·exact .of ‹_› (he _)
 ·exact abx he R _ _ _ _
theorem Xa:∀(c:Nat) (x:Ex) (p:Nat),(p8 ex R c x p).E:=by
 intro c;induction c with
 |zero=>intro x p;exact .bad dc
 |succ c b=>
  intro x p;rw[p8];split
  ·split
   ·exact .of ‹_› (wc R _)
   ·exact b _ _
  ·split
   ·split
    ·exact .of ‹_› (KA he R _ _ _ _)
    ·exact b _ _
   ·exact .ok
omit he in
theorem UA(b p:Nat):(sT b R p).E:=by
 unfold sT;split
 ·exact .bad dc
 ·split
  ·split
   ·exact .bad dc
   ·exact .ok
  ·exact .bad dc
include ht
theorem Xb(b:List eo)(p:Nat):(jW ty ex R b p).E:=by
 unfold jW;split
 ·exact .of ‹_› (DM R _ _)
 ·split
  ·exact .of ‹_› (iv R _ _)
  ·split
   ·exact .of ‹_› (ht _)
   ·split
    ·exact .map (he _)
    ·exact .ok
omit he in
theorem UB(s:cq)(p:Nat):(iH ty R s p).E:=by
 have b:∀p,(if c5 (R.tok p) [58,58]=true then(dh R (p+1)).map fun c=>(4,s,c)else .ok (3,[],s) p:PR (Nat×cq×cq)).E:=fun p=>by
  split
  ·exact .map (wc R _)
  ·exact .ok
 unfold iH;split
 ·exact .of ‹_› (b _)
 ·split
  ·exact .map (HN ht R _)
  ·exact .ok
theorem Xc(p:Nat):(gd ty ex R p).E:=by
 have e:∀x b,(if c5 (R.tok b) [58]=true then(ty (b+1)).map fun h=>Ex.mk 11 [] [] [] 0 [h] [] [x]else .ok x b).E:=fun x b=>by
  split
  ·exact .map (ht _)
  ·exact .ok
 have c:∀f p,(oc ex f p).E:=fun f p=>.map (he p);unfold gd;repeat' split
 all_goals first
  |exact UA R _ _
  |exact .ok
  |exact .bad dc
  |exact UB ht R _ _
  |exact KA he R _ _ _ _
  |exact .of ‹_› (wc R _)
  |exact .of ‹_› (rz he R _ _)
  |exact .of ‹_› (ht _)
  |exact .of ‹_› (he _)
  |exact .of ‹_› (iv R _ _)
  |exact .of ‹_› (e _ _)
  |exact .map (iv R _ _)
  |exact .map (Cd c R _ _ _)
theorem Xd(p:Nat):(od ty ex R p).E:=by
 unfold od;split
 ·exact .of ‹_› (Xc ht he R _)
 ·exact Xa he R _ _ _
theorem aby:∀(b p:Nat),(tP ty ex R b p).E:=by
 intro b;induction b with
 |zero=>intro p;exact .bad dc
 |succ b c=>
  intro p;rw[tP];split
  ·exact .map (c _)
  ·split
   ·exact UA R _ _
   ·exact Xd ht he R _
theorem UC(p:Nat):(wX ty ex R p).E:=HS (HS (aby ht he R _) R _) R _ p
theorem abz:∀(b p:Nat),(qj ty ex R b p).E:=by
 intro b;induction b with
 |zero=>intro p;exact .bad dc
 |succ b c=>
  intro p;rw[qj];split
  ·exact .map (c _)
  ·split
   ·exact .of ‹_› (UC ht he R _)
   ·split
    ·exact .ok
    ·exact .map (UC ht he R _)
theorem adh(p:Nat):(Wo ty ex R p).E:=HS (HS (abz ht he R _) R _) R _ p
theorem Xe(p:Nat):(oT ty ex R p).E:=by
 unfold oT;split
 ·exact .of ‹_› (s3 ht R _)
 ·split
  ·exact .of ‹_› (he _)
  ·split
   ·exact .of ‹_› (rz he R _ _)
   ·exact .map (rz he R _ _)
theorem UD(p:Nat):(mz ty ex R p).E:=by
 unfold mz;split
 ·exact .of ‹_› (s3 ht R _)
 ·split
  ·exact .of ‹_› (he _)
  ·split
   ·exact .of ‹_› (iv R _ _)
   ·exact .map (Cd (W9 he R) R _ _ _)
theorem Xf(p:Nat):(lQ ty ex R p).E:=by
 unfold lQ;repeat' split
 all_goals first
  |exact .of ‹_› (s3 ht R _)
  |exact .of ‹_› (wc R _)
  |exact .of ‹_› (iv R _ _)
  |exact .of ‹_› (rz he R _ _)
  |exact .map (rz he R _ _)
theorem Xg(p:Nat):(funcF ty ex R p).E:=by
 unfold funcF;split
 ·exact .of ‹_› (iv R _ _)
 ·split
  ·exact .of ‹_› (Cd (Xb ht he R) R _ _ _)
  ·exact .map (rz he R _ _)
end
theorem UE(R:Rd):∀(c p:Nat),(Ih R c p).E:=by
 intro c;induction c with
 |zero=>intro p;exact .bad dc
 |succ c b=>
  intro p;have ht:=HP R R.ts.length;rw[Ih,ET];repeat' split
  ·exact abw b R _
  ·exact Xe ht b R _
  ·exact UD ht b R _
  ·exact Xf ht b R _
  ·exact Xg ht b R _
  ·exact adh ht b R _
def we:V:=.agg [.d (.int .i64 0),.d (.str []),.d (.str []),.d (.str []),.d (.int .i64 0),.d .ci,.d .ci,.d .ci]
def DN(s:cq)(e:cO):Prop:=match jl s with
 |.err b h=>e=.ret (.dS [we,bW b,bW h])
 |.ok ts=>∃f c,match Ih ⟨f,c,ts⟩ ts.length 0 with
  |.bad b h=>e=.ret (.dS [we,bW b,bW h])
  |.ok k j=>if(Rd.tok ⟨f,c,ts⟩ j).kind≠0 then e=.ret (.dS [we,bW (Rd.tok ⟨f,c,ts⟩ j).off,bW 3])else ∃i,je k i/\e=.ret (.dS [.agg (i.map V.d),bW 0,bW 0])
theorem M4(s:cq){σ:VS}{K:cO->VS->Prop}(q:∀p,DN s p->K p σ):bV C ca sD [cn s,.fn cR [] []] σ K:=by
 refine bV.closed (P:=DN s) ?_ Z q;refine cm ?_;refine Au s (fun p e=>?_);cases hx:jl s with
 |err j v=>
  rw[hx]at e;obtain rfl:p=_:=e;have he:=mD hx;refine aZ (fun h=>?_) (fun h=>absurd (l3 h) he);repeat refine ch ?_
  refine a8 0 ⟨Z,Z,?_⟩;unfold DN;rw[hx];rfl
 |ok ts=>
  rw[hx]at e;obtain⟨b,cap,rfl⟩:=e;obtain⟨z,c⟩:=mC (R:=⟨b,cap,ts⟩) hx;have i:=Kz (R:=⟨b,cap,ts⟩) hx;have f:=ZS z i ts.length 0 (by show ts.length-0<=ts.length;omega);refine f.call 0 (aeu _) c 4 _ _ ?_ (fun B A l e1 hd=>?_) (fun j v l e1=>?_)
  ·exact Z
  ·obtain⟨k,m,n,w,num,ty,y,x,rfl⟩:=hd.eight;obtain⟨_,t⟩:=f.lt _ _ _ (aeP _) c e1;refine eF ⟨b,cap,ts⟩ l _ (bY t) 4 ?_ ?_
   ·exact Z
   apply aZ<;>intro h
   ·have o:(Rd.tok ⟨b,cap,ts⟩ l).kind≠0:=fun v=>by rw[v]at h;cases h
    refine fK _ (Rd.tok ⟨b,cap,ts⟩ l).off 3 ?_;refine oA.body Aj ?_;repeat refine ch ?_
    refine a8 0 ⟨Z,Z,?_⟩;unfold DN;rw[hx];refine⟨b,cap,?_⟩;rw[e1];dsimp only;rw[if_pos o];rfl
   ·have o:(Rd.tok ⟨b,cap,ts⟩ l).kind=0:=l3 h;refine oA.body Aj ?_;refine a8 0 ⟨Z,Z,?_⟩;unfold DN;exact aeG
  ·refine oA.body Aj ?_;repeat refine ch ?_
   refine a8 0 ⟨Z,Z,?_⟩;unfold DN;rw[hx];refine⟨b,cap,?_⟩;rw[e1];rfl
def FX(s:cq)(c:cO):Prop:=∃b,je (oY s).1 b/\c=.ret (.dS [.agg (b.map V.d),bW (oY s).2.1,bW (oY s).2.2])
theorem Le{s:cq}{b:Nat}(h:oY s=(w7,d,b)):FX s (.ret (.dS [we,bW d,bW b])):=by
 rw[FX,h];exact⟨_,W6,Z⟩
theorem OI(h:d≠0):decide (abL d=0)=false:=decide_eq_false fun b=>h (by simp only[Int.ofNat_eq_natCast]at b;omega)
theorem KB(s:cq):bV C ca wP [cn s] [] fun y D=>D=[]/\cM y=true/\FX s y:=by
 refine cm ?_;refine M4 s (fun y b=>?_);unfold DN at b;cases f:jl s with
 |err e p=>
  rw[f]at b;have b:y=.ret (.dS [we,bW e,bW p]):=b;subst b;have j:=mD f;have hp:oY s=(w7,e,p):=by rw[oY,f]
  refine a7 (OI j) ?_;exact R8
 |ok ts=>
  rw[f]at b;dsimp only at b;obtain⟨x,c,b⟩:=b;obtain⟨I,v⟩:=mC (R:=⟨x,c,ts⟩) f;have E:=qc (R:=⟨x,c,ts⟩) f;have F:Ih ⟨x,c,ts⟩ ts.length=Ih ⟨0,0,ts⟩ ts.length:=Uz (R:=⟨x,c,ts⟩) (R':=⟨0,0,ts⟩) rfl _;have h:=zx I E ts.length 0;rw[F]at b h;cases i:Ih ⟨0,0,ts⟩ ts.length 0 with
  |bad e p=>
   rw[i]at b;have b:y=.ret (.dS [we,bW e,bW p]):=b;subst b;have j:=UE _ _ _ e p i;have hp:oY s=(w7,e,p):=by rw[oY,f];dsimp only;rw[i]
   refine a7 (OI j) ?_;exact R8
  |ok w o=>
   rw[i]at b;dsimp only at b;have hp:oY s=if(Rd.tok ⟨0,0,ts⟩ o).kind≠0 then(w7,(Rd.tok ⟨0,0,ts⟩ o).off,3)else if r9 w≠0 then(w7,0,r9 w)else(w,0,0):=by rw[oY,f];dsimp only;rw[i]
   have G:Rd.tok ⟨x,c,ts⟩ o=Rd.tok ⟨0,0,ts⟩ o:=eb (R:=⟨x,c,ts⟩) (R':=⟨0,0,ts⟩) rfl o;rw[G]at b;by_cases z:(Rd.tok ⟨0,0,ts⟩ o).kind≠0
   ·rw[if_pos z]at b hp;subst b;exact R8
   ·rw[if_neg z]at b hp;obtain⟨N,q,rfl⟩:=b;obtain⟨H,L,_,A⟩:=h 0 w o (aeu _) v i;have B:=I.len;have A:o<ts.length:=A;have B:ts.length<4294967296:=B;obtain⟨k,m,n,K,num,ty,M,J,rfl⟩:=q.eight;refine Bi w _ q H om ?_;apply aZ<;>intro t
    ·have l:r9 w≠0:=fun p=>by rw[p]at t;cases t
     rw[if_pos l]at hp;exact R8
    ·have l:r9 w=0:=l3 t;rw[if_neg om]at hp;rw[l];refine a8 0 ⟨Z,Z,by rw[FX,hp];exact⟨_,q,rfl⟩⟩
theorem M5(s:cq){σ:VS}{K:cO->VS->Prop}(b:∀c,FX s c->K c σ):bV C ca wP [cn s] σ K:=
 bV.closed (KB s) rfl b
def wg:V:=.agg [cn [],.d .ci,.d .ci]
abbrev AD(R:Rd)(p:Nat):PR (FO×List Nat):=tQ (dl R R.ts.length) (Ih R R.ts.length) R p
def Bj(s:cq)(e:cO)(f:D):Prop:=match jl s with
 |.err b i=>e=.ret (.dS [wg,bW b,bW i])
 |.ok ts=>∃h c,match AD ⟨h,c,ts⟩ 0 with
  |.bad b i=>e=.ret (.dS [wg,bW b,bW i])
  |.ok m k=>if(Rd.tok ⟨h,c,ts⟩ k).kind≠0 then e=.ret (.dS [wg,bW (Rd.tok ⟨h,c,ts⟩ k).off,bW 3])else ∃j,At m.1 j/\FP m.2 f/\e=.ret (.dS [.agg (j.map V.d),bW 0,bW 0])
theorem KC{R:Rd}(m:R.Wf)(k:R.Nm)(f:R.ts.length<=65537):∀(l:Nat) (w:List vY) (p:Nat) (e:List vY) (j:Nat),p<R.ts.length->fT R l w p=.ok e j->p<=j/\j<R.ts.length:=by
 intro l;induction l with
 |zero=>intro w p e j _ h;cases h
 |succ l v=>
  intro w p e j hp h;rw[fT]at h;split at h
  ·rename_i n;split at h
   ·cases h
   ·rename_i D q1 b;rw[iu]at b;split at b
    ·cases b
    ·rename_i s q2 q;obtain⟨B,A⟩:=(xO m k f).lt _ _ _ (m.step hp n) q;obtain⟨x,c,_⟩:=dv b;rw[dI]at c;split at c
     ·cases c
     ·rename_i C q3 i;have t:=cL _ _ _ i;have o:=da m _ _ _ A i;simp only[aet,abK]at t;obtain⟨E,z⟩:=fS m o c;obtain⟨F,y⟩:=v _ _ _ _ z h;exact⟨om,y⟩
  ·exact NC
theorem QY{R:Rd}(q:R.Wf){ty:Nat->PR Ty}{ex:Nat->PR Ex}{lo:Nat}(ht:∀p x b,lo<=p->p<R.ts.length->ty p=.ok x b->p<b/\b<R.ts.length)(m:∀p x b,lo<=p->p<R.ts.length->ex p=.ok x b->p<b/\b<R.ts.length):∀(f:Nat) (l:List jX) (c:List Nat) (p:Nat) (e:List jX×List Nat) (b:Nat),lo<=p->p<R.ts.length->ib ty ex R f l c p=.ok e b->p<=b/\b<R.ts.length:=by
 intro f;induction f with
 |zero=>intro l c p e b _ _ h;cases h
 |succ f j=>
  intro l c p e b k hp h;rw[ib]at h;split at h
  ·split at h
   ·cases h
   ·rename_i s q1 i;obtain⟨t,o⟩:=Cg q ht m k hp i;obtain⟨v,n⟩:=j _ _ _ _ _ om o h;exact⟨om,n⟩
  ·exact NC
theorem Xh{R:Rd}(i:R.Wf)(e:R.Nm)(c:R.ts.length<=65537){ty:Nat->PR Ty}{ex:Nat->PR Ex}{lo:Nat}(ht:∀p x d,lo<=p->p<R.ts.length->ty p=.ok x d->p<d/\d<R.ts.length)(o:∀p x d,lo<=p->p<R.ts.length->ex p=.ok x d->p<d/\d<R.ts.length){m:FO×List Nat}(l:lo<R.ts.length)(h:tQ ty ex R lo=.ok m d):lo<=d/\d<R.ts.length:=by
 rw[tQ]at h;split at h
 ·cases h
 ·rename_i s q1 b;rw[dI]at b;split at b
  ·cases b
  ·rename_i B t f;have q:=cL _ _ _ f;have k:=da i _ _ _ l f;simp only[aet,abK]at q;obtain⟨A,y⟩:=(xO i e c).lt _ _ _ k b;split at h
   ·cases h
   ·rename_i z q2 j;obtain⟨C,w⟩:=KC i e c _ _ _ _ _ y j;obtain⟨x,n,_⟩:=dv h;obtain⟨D,v⟩:=QY i ht o _ _ _ _ _ _ om w n;exact⟨om,v⟩
theorem UF{R:Rd}(x:R.Wf)(f:R.Nm)(k:R.ts.length<=65537){ty:Nat->PR Ty}{ex:Nat->PR Ex}{p:Nat}(ht:ef ty R p)(t:Good ty R p)(j:mA cR ex R p)(o:p<R.ts.length)(i:Nat){σ:VS}{K:cO->VS->Prop}(c:nth σ i=some (dp R p)) 
  (n:∀m l b q,tQ ty ex R p=.ok m q->At m.1 l->FP m.2 b->K (.ret (.dS [.agg (l.map V.d),.d b])) (σ.set i (dp R q))) (k2:∀off e q,tQ ty ex R p=.bad off e->K (.eH (dt off e)) (σ.set i (dp R q))):bV C ca to [.bp i 0] σ K:=by
 refine bV.one (dM:=[.bp 0 0]) (P:=mdK R (tQ ty ex R p)) (Qy x f k ht t j o) i c Z Z Z (fun y w h=>?_);unfold mdK at h;split at h
 ·rename_i m q e;obtain⟨rfl,l,b,v,s,rfl⟩:=h;exact n m l b q e v s
 ·exact Vp
theorem KD(s:cq):bV C ca kW [cn s,.fn mm [] [.bp 0 0]] [.box [.d .ci]] fun E A=>∃j,A=[.box j]/\cM E=true/\fu 0 j=true/\∃f,j=[.d f]/\Bj s E f:=by
 refine cm ?_;refine Au s (fun E n=>?_);cases c:jl s with
 |err z J=>
  rw[c]at n;obtain rfl:E=_:=n;have he:=mD c;refine aZ (fun h=>?_) (fun h=>absurd (l3 h) he);repeat refine ch ?_
  refine a8 1 ⟨_,Z,Z,Z,_,Z,?_⟩;unfold Bj;rw[c];rfl
 |ok ts=>
  rw[c]at n;obtain⟨e,b,rfl⟩:=n;obtain⟨D,i⟩:=mC (R:=⟨e,b,ts⟩) c;have v:=Kz (R:=⟨e,b,ts⟩) c;have l:=qc (R:=⟨e,b,ts⟩) c;have o:ts.length<=65537:=(B8 c).2.2.2.1;have q:=ZS D v ts.length 0 (by show ts.length-0<=ts.length;omega);have p:=Ds D ts.length 0 (by show ts.length-0<=ts.length;omega);have t:=pt D l ts.length;refine cj ?_;refine UF D l o p t q i 5 ?_ (fun m L f B k K I=>?_) (fun z J B k=>?_)
  ·exact Z
  ·obtain⟨w,y,H,F,rfl⟩:=K;obtain⟨_,G⟩:=Xh D l o p.lt q.lt i k;refine eF ⟨e,b,ts⟩ B _ (bY G) 5 ?_ ?_
   ·exact Z
   apply aZ<;>intro h
   ·have x:(Rd.tok ⟨e,b,ts⟩ B).kind≠0:=fun J=>by rw[J]at h;cases h
    refine fK _ (Rd.tok ⟨e,b,ts⟩ B).off 3 ?_;refine oA.body Aj ?_;repeat refine ch ?_
    refine a8 1 ⟨_,Z,Z,Z,f,Z,?_⟩;unfold Bj;rw[c];refine⟨e,b,?_⟩;rw[show AD ⟨e,b,ts⟩ 0=_ from k];dsimp only;rw[if_pos x];rfl
   ·have x:(Rd.tok ⟨e,b,ts⟩ B).kind=0:=l3 h;refine oA.body Aj ?_;refine a8 1 ⟨_,Z,Z,Z,f,Z,?_⟩;unfold Bj;rw[c];refine⟨e,b,?_⟩;rw[show AD ⟨e,b,ts⟩ 0=_ from k];dsimp only;rw[if_neg om];exact⟨_,⟨w,y,H,F,Z⟩,I,Z⟩
  ·refine oA.body Aj ?_;repeat refine ch ?_
   refine a8 1 ⟨_,Z,Z,Z,.ci,Z,?_⟩;unfold Bj;rw[c];refine⟨e,b,?_⟩;rw[show AD ⟨e,b,ts⟩ 0=_ from k];rfl
theorem M6(s:cq)(f:Nat){σ:VS}{K:cO->VS->Prop}(e:nth σ f=some (.box [.d .ci]))(i:∀c b,Bj s c b->K c (σ.set f (.box [.d b]))):bV C ca kW [cn s,.fn mm [] [.bp f 0]] σ K:=
 bV.one (dM:=[cn s,.fn mm [] [.bp 0 0]]) (P:=fun c j=>∃b,j=[.d b]/\Bj s c b) (KD s) f e rfl rfl rfl (fun c k ⟨b,l,h⟩=>by rw[l];exact i c b h)
end Go.Proofs.YtpejealjkmhkgaaGreatDoor
