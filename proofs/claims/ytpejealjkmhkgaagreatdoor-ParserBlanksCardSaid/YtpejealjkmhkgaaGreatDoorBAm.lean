/- Part of the proof. -/
import Derived.Test.YtpejealjkmhkgaaGreatDoorBAl
set_option linter.all false
set_option maxHeartbeats 16000000
set_option maxRecDepth 100000
open Int renaming ofNat->agj,ofNat_eq_natCast->agp
open Nat renaming le_of_ble_eq_true->agk,le_refl->agl,zero_le->agr,beq->agv,zero_add->agB,le_succ_of_le->agK,ble_eq->agU,add_assoc->agW
open List renaming length_cons->agm,length_append->ago,length_nil->agq,getElem?_eq_getElem->ags,getElem_mem->agu,length_set->agw,isPrefixOf->agx,eq_nil_of_length_eq_zero->agy,mem_singleton->agz,cons_append->agA,drop->agC,take_of_length_le->agD,take->agE,mem_cons->agF,nil_append->agG,map_append->agH,length_map->agI,map->agJ,getElem?_map->agL,mem_append->agN,length_singleton->agO,length_pos_iff->agP,take_add_one->agQ,getElem?_set_self->agY
open Bool renaming false_eq_true->agn,and_true->agM,and_eq_true->agR,false_and->agS,and_false->agT,true_and->agX
open And renaming intro->agt
open Option renaming toList->agV
namespace Go.Proofs.YtpejealjkmhkgaaGreatDoor
open Go.AM Go.VM
def aef(k:Nat)(m n x:cq)(num:Int)(b c a:D):Prop:=∃h e f g d,eN (.int .i64) (b5 k) T9 0=some (some (h,fm e f g d))/\gy k m n x num b c a (fm e f g d)/\s5 k m n x num b c a (fm e f g d)
def hD(k:Nat):k8 k []:=⟨by simp,List.Pairwise.nil,by simp,by simp⟩
def ac9{k:Nat}{m n x:cq}{num:Int}{types:List Ty}{labels:List lK}{kids:List Ex}{j l i:D}(q:fB (.mk k m n x num types labels kids))(c:fA types j)(a:eR labels l)(b:fR kids i)(d:labels.length<4294967296):aef k m n x num j l i:=by
 have f:([]:List lK).length<4294967296:=dc;cases q with
 |int=>obtain rfl:=c.cS;exact⟨0,_,_,_,_,rfl,fits_int _ a b,acZ a f (hD 0)⟩
 |text=>obtain rfl:=c.cS;exact⟨1,_,_,_,_,rfl,QE _ a b,ac0 a f (hD 1)⟩
 |bool=>obtain rfl:=c.cS;exact⟨2,_,_,_,_,rfl,fits_bool _ a b,ac1 a f (hD 2)⟩
 |loc e=>obtain rfl:=c.cS;exact⟨3,_,_,_,_,rfl,Ub _ a b,ac2 e a f (hD 3)⟩
 |val o e _ _=>exact⟨4,_,_,_,_,rfl,Uc _ _ _ a b,ac3 o e a f (hD 4)⟩
 |Rz g h=>obtain rfl:=c.cS;exact⟨5,_,_,_,_,rfl,Up a d g b om,ac4 a d g⟩
 |WO e=>obtain rfl:=c.cS;exact⟨6,_,_,_,_,rfl,QF _ a b,ac5 e a f (hD 6)⟩
 |inj e=>obtain rfl:=c.cS;exact⟨7,_,_,_,_,rfl,Ud _ a b,ac6 e a f (hD 7)⟩
 |func g h=>obtain rfl:=c.cS;exact⟨8,_,_,_,_,rfl,QU a d g b h,ac7 a d g⟩
 |call g h=>obtain rfl:=c.cS;exact⟨9,_,_,_,_,rfl,QT a d g b om,ac8 a d g⟩
 |WQ e=>obtain rfl:=c.cS;exact⟨10,_,_,_,_,rfl,QP _ a b,abl e a f (hD 10)⟩
 |asc _=>exact⟨11,_,_,_,_,rfl,Uk c a b,abm a f (hD 11)⟩
 |cond _=>exact⟨12,_,_,_,_,rfl,QQ c a b,abn a f (hD 12)⟩
 |mat _ g h=>exact⟨13,_,_,_,_,rfl,Uq c a d g b om,abo a d g⟩
 |lst _=>exact⟨14,_,_,_,_,rfl,Ul c a b,abp a f (hD 14)⟩
 |fold _ e p=>exact⟨15,_,_,_,_,rfl,QR _ _ c a b,abq e p a f (hD 15)⟩
 |one e=>obtain rfl:=c.cS;exact⟨16,_,_,_,_,rfl,Um e a b,Uo a f (hD 16)⟩
 |two e=>obtain rfl:=c.cS;exact⟨16,_,_,_,_,rfl,Un e a b,Uo a f (hD 16)⟩
def fB.Ue{k:Nat}{m n x:cq}{num:Int}{types:List Ty}{labels:List lK}{kids:List Ex}(a:fB (.mk k m n x num types labels kids)):k8 k labels:=by
 cases a<;>first|exact hD _|assumption
def fB.ada{k:Nat}{m n x:cq}{num:Int}{types:List Ty}{labels:List lK}{kids:List Ex}(b:fB (.mk k m n x num types labels kids))(a:k=8):types=[]:=by
 cases b<;>first|rfl|omega
def fB.all{g:Ex}(i:fB g):∀b∈k7 g,ft b:=by
 have e:∀{k:Nat} {labels:List lK},k8 k labels->∀b∈(if k=8 then labels.map lK.ty else []),ft b:=fun{k labels} c b a=>by
  split at a
  ·rename_i d;obtain⟨x,h,rfl⟩:=List.mem_map.1 a;have:=c.ty x h;rwa[if_pos d]at this
  ·simp at a
 obtain⟨k,m,n,x,num,types,labels,kids⟩:=g;intro b a;rw[k7]at a;rcases agN.1 a with h1|h1
 ·cases i<;>first|(simp at h1;done)|(simp at h1;subst h1;assumption)|(rename_i f _;exact f b h1)
 ·exact e i.Ue b h1
def oX:Ex->Nat
 |.mk k m n x num types labels kids=>if 32<labels.length∨8<types.length∨65536<x.length then 7 else if k=15/\n=x then 5 else si ((types++if k=8 then labels.map lK.ty else []).any k6)
section
variable{k:Nat} {m n x:cq} {num:Int} {types:List Ty} {labels:List lK} {kids:List Ex}
def E3(a:32<labels.length∨8<types.length∨65536<x.length):oX (.mk k m n x num types labels kids)=7:=by rw[oX,if_pos a]
def DJ(c:¬(32<labels.length∨8<types.length∨65536<x.length))(a:k=15)(b:n=x):oX (.mk k m n x num types labels kids)=5:=by rw[oX,if_neg c,if_pos ⟨a,b⟩]
def FV(b:¬(32<labels.length∨8<types.length∨65536<x.length))(a:¬(k=15/\n=x)):oX (.mk k m n x num types labels kids)=si ((k7 (.mk k m n x num types labels kids)).any k6):=by rw[oX,if_neg b,if_neg a,k7]
end
def fA.inv{l:List Ty}{c:D}(b:fA l c):(l=[]/\c=.ci)∨∃d f e a,c=.ps d f 5 e a/\dz l a:=by
 cases b with
 |nil=>exact .inl ⟨rfl,rfl⟩
 |ps b _=>exact .inr ⟨_,_,_,_,rfl,b⟩
def adb:Nat->Bool:=fun a=>agv a 1000008||agv a 1000013
def OU(k:Nat)(m n x:cq)(num:Int)(a b c:D)(d:cq)(t:Int)(l:Bool)(f:Int):VS:=[HL,.box (ky k m n x num a b c),.box [cn d,.d (.int .i64 t),b6 l,.d (.int .i64 f)]]
def Kw{l:List Ty}{b:Nat}(c:b<l.length)(a:k6 l[b]=true):l.any k6=true:=List.any_eq_true.2 ⟨_,agu c,a⟩
def any_none{l:List Ty}(d:∀b (a:b<l.length),k6 l[b]=false):l.any k6=false:=by
 rw[List.any_eq_false];intro e c;obtain⟨b,a,rfl⟩:=List.mem_iff_getElem.1 c;rw[d b a];decide
theorem M1{k:Nat}{m n x:cq}{num:Int}{types:List Ty}{labels:List lK}{kids:List Ex}{ty lb kd:D}(h:fB (.mk k m n x num types labels kids))(ht:fA types ty)(hl:eR labels lb)(hk:fR kids kd)(B:types.length+labels.length<4294967296)(hsz:cy (k7 (.mk k m n x num types labels kids))<4294967295):
  b4 C ca yP [Ua k m n x num ty lb kd,.map 0] [HL] fun W M=>M=[HL]/\cM W=true/\W=.ret (b5 (oX (.mk k m n x num types labels kids))):=by
 have hex:je (.mk k m n x num types labels kids) [.int .i64 (agj k),.str m,.str n,.str x,.int .i64 num,ty,lb,kd]:=.mk ht hl hk;obtain⟨c,s,t,l,f,hfi,Z9,Z8⟩:=ac9 h ht hl hk om;have hw:=h.Ue;have Vn:=h.all;have h8:=h.ada;refine cv adb (fun _=>Z) ?_;refine cc (some (c,fm s t l f)) hfi ?_;refine cC Z9 Z Z ?_;apply dH (ι:=Unit) (T:=fun _=>[(2,.bp 1 0)]) (S:=fun _=>OU k m n x num ty lb kd s t l f) (I:=fun _=>¬(32<labels.length∨8<types.length∨65536<x.length))
 ·intro hC;rcases hl.inv with⟨z,zG⟩|⟨b,P,aj,j,zG,G⟩
  ·have F:labels.length=0:=by rw[z];rfl
   rcases ht.inv with⟨e,wi⟩|⟨T,Q,S,A,wi,o⟩
   ·have d:types.length=0:=by rw[e];rfl
    exact RO
   ·have d:=o.len;exact RO
  ·have F:=G.len;rcases ht.inv with⟨e,wi⟩|⟨T,Q,S,A,wi,o⟩
   ·have d:types.length=0:=by rw[e];rfl
    exact RO
   ·have d:=o.len;exact RO
 ·intro _ i;refine DC _ labels hl om hw.srt ?_;apply dH (ι:=Unit) (T:=fun _=>[(2,.bp 1 0)]) (S:=fun _=>OU k m n x num ty lb kd s t l f) (I:=fun _=>¬(k=15/\n=x))
  ·intro hC;apply aZ<;>intro K
   ·repeat refine de ?_
    apply aZ<;>intro H
    ·repeat refine de ?_
     exact a8 1 ⟨Z,Z,congrArg (fun v=>cO.ret (b5 v)) (DJ i (AJ (b:=15) K) (of_decide_eq_true H)).symm⟩
    ·repeat refine de ?_
     exact cw (dB:=[(2,.bp 1 0)]) (fU:=OU k m n x num ty lb kd s t l f) .eS (hC () (fun E=>of_decide_eq_false H E.2))
   ·repeat refine de ?_
    exact cw (dB:=[(2,.bp 1 0)]) (fU:=OU k m n x num ty lb kd s t l f) .eS (hC () (fun E=>ED (b:=15) K E.1))
  ·intro _ q;rw[FV i q];refine Km _ _ hex (fun _ _ _ _ _ _ _ _ V=>by cases V;exact h8) om (fun _ _ _ _ _ _ _ _ V=>by cases V;exact B) (fun ad N=>?_);generalize k7 (.mk k m n x num types labels kids)=own at N Vn hsz;have X:=dA own;cases N with
   |nil=>
    refine cd.loop ?_;exact a8 1 ⟨Z,Z,Z⟩
   |ps L=>
    rename_i b P w j;have J:=L.len;refine cd.less (dB:=[(65,.d (.ps b P 5 w j)),(66,b5 own.length),(67,b5 0)]) ⟨Z,int_eq (by rw[J]),Z,tv⟩ ?_;refine cd.iter (fun c:Nat=>[(65,.d (.ps b P 5 w j)),(66,b5 own.length),(67,b5 c)]) (fun _=>OU k m n x num ty lb kd s t l f) (fun c=>own.length-c) (fun c=>c<=own.length/\∀p (r:p<own.length),p<c->k6 own[p]=false) ?_ 0 ⟨agr _,fun p _ h=>absurd h (Nat.not_lt_zero _)⟩;rintro c ⟨ag,u⟩;apply aZ<;>intro O
    ·have a:c<own.length:=ee O;obtain⟨ad,U,y⟩:=L.get a;obtain⟨ah,ac,Y,ai,f2,rfl⟩:=y.cZ;refine bZ Z ?_;refine cc _ (by rw[ck];exact U) ?_;have z:=dJ (agu a);refine qb own[c] _ y (Vn _ (agu a)) om ?_;cases I:k6 own[c]with
     |true=>exact a8 1 ⟨rfl,rfl,by rw[Kw a I];rfl⟩
     |false=>
      refine⟨c+1,⟨a,fun p r aa=>?_⟩,iK,.eD 3,Z,Z⟩;rcases Nat.lt_or_ge p c with g|g
      ·exact u p r g
      ·obtain rfl:p=c:=om;exact I
    ·have a:own.length<=c:=dq O;exact a8 1 ⟨Z,Z,by rw[any_none fun p r=>u p r om];rfl⟩
def ej.kids{b:Ex}(a:ej b):∀x∈b.kids,ej x:=by cases a with|mk _ a=>exact a
def ej.node{b:Ex}(a:ej b):fB b:=by cases a with|mk a _=>exact a
def DK(a:Nat)(b:Ex):Nat ⊕ Empty:=.inl (a+(1+cy (k7 b)))
def abr:∀(n:Nat) (b:Ex) (a:Nat),cP b<=n->jj DK b a=.inl (a+cP b):=by
 intro n;induction n with
 |zero=>intro b a i;have:=gP b;omega
 |succ n f=>
  intro b a i;have e:=fJ b;rw[ou];show fx DK b.kids (a+(1+cy (k7 b)))=_;have:∀(c:List Ex) (a:Nat),cQ c<=n->fx DK c a=.inl (a+cQ c):=by
   intro c;induction c with
   |nil=>intro a _;rfl
   |cons h c d=>
    intro a g;rw[cQ]at g⊢;rw[fx,f h a om];show fx DK c (a+cP h)=_;rw[d _ om,agW]
  rw[this _ _ om,e];congr 1;omega
def aeg:Nat ⊕ Empty->Nat
 |.inl n=>n
 |.inr _=>0
def wb{e:Ex}{k:Nat}{m n x:cq}{num:Int}{types:List Ty}{labels:List lK}{kids:List Ex}(h:ej e)(d:e=.mk k m n x num types labels kids)(j:cP e<4294967296):types.length+labels.length<4294967296:=by
 subst d;have c:=fJ (.mk k m n x num types labels kids);have i:=ju kids;have a:=dA (k7 (.mk k m n x num types labels kids));rw[k7,ago]at a;rw[k7]at c;rw[Ex.kids]at c;have f:=h.node;cases f
 case Rz _ b=>simp only[agq];omega
 case func g b=>rw[if_pos rfl]at c a;rw[agI]at a;simp only[agq]at a⊢;omega
 case call _ b=>simp only[agq];omega
 case mat _ b=>simp only[agm,agq];omega
 all_goals simp only[agq,agm]at a⊢;omega
def WY{c:Ex}{b:cH}(d:je c b)(h:ej c)(f:cP c<4294967296){σ:VS}{g:cO->VS->Prop}(e:∀b,Ii (k7 c) b->g (.ret (.d b)) σ):b4 C ca sH [.agg (b.map V.d)] σ g:=by
 have i:=fJ c;exact Km c b d (fun _ _ _ _ _ _ _ _ a=>by subst a;exact h.node.ada) om (fun _ _ _ _ _ _ _ _ a=>wb h a f) e
def Ii.inv{l:List Ty}{b:D}(h:Ii l b):(l=[]/\b=.ci)∨∃c e d a,b=.ps c e 5 d a/\dz l a:=by
 exact XM
def OG(a:ki):ki:={a with state:=.busy}
def abt(c:List V)(a:ki)(x:Nat ⊕ Empty):Ob3:=⟨.box c,.box [b5 (aeg x)],.box c,a⟩
theorem ade{b:Ob3}{a:List V}{d:VS}(i:fu 0 a=true)(c:(fW 8 b.o0&&(fW 8 b.o1&&(fW 8 b.o2&&fW 8 (.loop b.L))))=true):mJ 8 (W3 b++.box a::d) 8=true:=by
 simp only[agR]at c;obtain⟨g,f,e,h⟩:=c;simp only[W3,agA,agG,mJ,g,f,e,h,agX,agM];rw[show fW 8 (.box a)=fu 8 a from rfl,gx 8 a i];rfl
theorem adf{c:Ob3}{b a:List V}{f:VS}(k:fu 0 b=true)(g:fu 0 a=true)(e:(fW 9 c.o0&&(fW 9 c.o1&&(fW 9 c.o2&&fW 9 (.loop c.L))))=true):mJ 9 (W3 c++.box b:: .box a::f) 9=true:=by
 simp only[agR]at e;obtain⟨i,h,d,j⟩:=e;simp only[W3,agA,agG,mJ,i,h,d,j,agX,agM];rw[show fW 9 (.box b)=fu 9 b from rfl,gx 9 b k,show fW 9 (.box a)=fu 9 a from rfl,gx 9 a g];rfl
def Kx(u:Ex)(S:cH)(v:je u S)(I:ej u)(au:cP u<4294967295):b4 C ca qO [.agg (S.map V.d)] [] fun ae E=>E=[]/\ae=.ret (b5 (cP u)):=by
 obtain⟨k,m,h,j,num,l,o,i,rfl⟩:=v.eight;refine cm ?_;refine cj ?_;refine cj ?_;refine(abj (step:=DK) (B:=fun n=>n) (Good:=ej) (S:=abt (ky k m h j num l o i) ?M) (fun u K=>K.kids) ?_ ?_ ?_ ?_ _ u _ 0 (agl _) v I om).mono (fun ae E K=>?_)
 ·intro x;exact rfl
 ·intro x q y K;exact ade K Z
 ·intro r u aq K;cases K;exact agl _
 ·intro r u S q am v I T X w _;have W:=fJ u;have X:r+cP u<4294967296:=X;obtain⟨t,s,c,e,a,g,f,b,rfl⟩:=v.eight;refine iA.intro ?_;refine WY v I om (fun S U=>?_);have w:=w _ rfl;generalize k7 u=own at U W w;have P:∀(L:Int) (y:VS),L=agj (r+(1+cy own))->am (.ret (b6 true)) (W3 ⟨.box (ky k m h j num l o i),.box [.d (.int .i64 L)],.box (ky k m h j num l o i),?M⟩++.box q::y):=by
   rintro _ y rfl;exact w y
  have D:IntKind.i64.wrap (agj r+1)=agj (r+1):=cp om;rcases U.inv with⟨H,rfl⟩|⟨ad,ag,B,F,rfl,R⟩
  ·refine cd.loop ?_;have J:=P (IntKind.i64.wrap (agj r+1)) [.box (ky t s c e a g f b)] (by rw[D,H,cy]);exact J
  ·have Q:=R.len;have af:=dA own;have ab:agj (r+1)=agj (r+1+cy (own.take 0)):=by rw[List.take_zero,cy]
   refine cw (dB:=[(3,.bp 1 0),(13,.d (.ps ad ag 5 B F)),(14,b5 own.length),(15,b5 0)]) (fU:=W3 (abt (ky k m h j num l o i) (OG ?M) (.inl (r+1+cy (own.take 0))))++[.box q,.box (ky t s c e a g f b)]) (.same ⟨Z,Z,int_eq (by rw[Q]),Z,tv⟩ (congrArg (fun L=>W3 ⟨.box (ky k m h j num l o i),.box [V.d (.int .i64 L)],.box (ky k m h j num l o i),OG ?M⟩++[.box q,.box (ky t s c e a g f b)]) (D.trans ab))) ?_;refine cd.iter (fun p:Nat=>[(3,.bp 1 0),(13,.d (.ps ad ag 5 B F)),(14,b5 own.length),(15,b5 p)]) (fun p=>W3 (abt (ky k m h j num l o i) (OG ?M) (.inl (r+1+cy (own.take p))))++[.box q,.box (ky t s c e a g f b)]) (fun p=>own.length-p) (fun p=>p<=own.length) ?_ 0 (agr _);have aa:fu 0 q=true:=T;intro p ar;apply aZ<;>intro Y
   ·have d:p<own.length:=ee Y;obtain⟨S,z,G⟩:=R.get d;obtain⟨ao,an,ai,ap,f3,rfl⟩:=G.cZ;have A:=z;rw[<-ck]at A;have al:=dJ (agu d);have N:=qZ d;have ah:=mE own (p+1);have ac:=c4 (a:=r+1+cy (own.take p)) (b:=ct own[p]) om;have O:agj (r+1+cy (own.take p)+ct own[p])=agj (r+1+cy (own.take (p+1))):=by rw[N,<-agW]
    refine bZ Z ?_;refine cc _ A ?_;repeat refine ch ?_
    refine nF own[p] _ G om ?_;repeat refine ch ?_
    refine⟨p+1,d,iK,.drop 9 ⟨Z,Z,Z,int_eq (cp om),tv⟩ Z Z ?_ Z Z Z ?_,Z,Z⟩
    ·exact adf aa Z Z
    ·exact congrArg (fun L=>W3 ⟨.box (ky k m h j num l o i),.box [V.d (.int .i64 L)],.box (ky k m h j num l o i),OG ?M⟩++[.box q,.box (ky t s c e a g f b)]) (ac.trans O)
   ·have d:own.length<=p:=dq Y;rw[agD d];have J:=P (agj (r+1+cy own)) [.box (ky t s c e a g f b)] (by rw[agW]);exact J
 ·obtain⟨x,z,rfl,rfl⟩:=K;rw[abr _ u 0 (agl _)]at z;subst z;exact a8 0 ⟨Z,congrArg (fun n=>cO.ret (b5 n)) (agB _)⟩
def H5(a:Int):(!decide (a=a))=false:=by simp
def eR.inv2{l:List lK}{b:D}(h:eR l b):∃a,qi l a/\((a=[]/\b=.ci)∨∃c e d,b=.ps c e 8 d a):=by
 exact ab7
def fR.inv2{l:List Ex}{b:D}(h:fR l b):∃a,jt l a/\((a=[]/\b=.ci)∨∃c e d,b=.ps c e 8 d a):=by
 exact ab7
def U5{h:Ex}{k:Nat}{m n x:cq}{num:Int}{types:List Ty}{labels:List lK}{kids:List Ex}(o:fB h)(j:h=.mk k m n x num types labels kids):∀i∈labels,ct i.ty<=cP h:=by
 intro i d;have b:∀{k:Nat},k8 k labels->cy (if k=8 then labels.map lK.ty else [])+1<=cP h->ct i.ty<=cP h:=by
  intro k a l;have g:=a.ty i d;by_cases e:k=8
  ·rw[if_pos e]at l;have:=dJ (List.mem_map_of_mem (f:=lK.ty) d);omega
  ·rw[if_neg e]at g;rw[g.1];have:ct cV=1:=dc;omega
 subst j;have c:=fJ (.mk k m n x num types labels kids);rw[k7]at c;cases o with
 |Rz a _=>exact b a (by rw[c,ga];omega)
 |func a _=>exact b a (by rw[c,ga];omega)
 |call a _=>exact b a (by rw[c,ga];omega)
 |mat _ a _=>exact b a (by rw[c,ga];omega)
 |_=>cases d
def Bl{C:dR}{c:ql}{f:Type}{σ:VS}(a:f->Tm)(j:f->Nat)(I:f->Prop){k:uw}{b:Code}{d:List fq}{e:lJ}{p:Bu->Tm->List fq->lJ->VS->Prop} 
  (q:∀m,I m->vc C c k b (a m) d e σ fun x n g h i=>match x with
   |.norm=>∃l,I l/\j l<j m/\Gz k.fl (a l) σ d e n i/\g=d/\h=e
   |x=>p x n g h i) (m:f) (o:I m):cd C c k (.loop b) (a m) d e σ p:=cd.iter a (fun _=>σ) j I q m o
def adm {a:Prop} (b:a:=by
 first
  |(refine cd.loop ?_
    exact a8 0 ⟨Z,Z⟩)
  |(refine cD (dB:=[(2,.bp 0 0),(3,.bp 1 0),(8,b5 0)]) ?_
    refine Bl (fun i:Nat=>[(2,.bp 0 0),(3,.bp 1 0),(8,b5 i)]) (fun i=>kids.length-i) (fun i=>i<=kids.length) ?_ 0 (Nat.zero_le _);intro i hi;apply aZ<;>intro hc
    ·try exact absurd (hKK▸ee hc) (Nat.not_lt_zero _)
     all_goals
      have hi':i<kids.length:=e2▸ee hc;have hle:=j7 (List.getElem_mem hi');obtain⟨d,hx,vy⟩:=hkl.get hi';obtain⟨d',hy,Y5⟩:=adn.get hi';have hai:=hak _ (List.getElem_mem hi');obtain⟨k2,m2,n2,x2,abT,ty2,lb2,kd2,rfl⟩:=vy.eight;obtain⟨k3,m3,n3,x3,aem,ty3,lb3,kd3,rfl⟩:=Y5.eight;have RB:nth my i=some [.int .i64 (Int.ofNat k2),.str m2,.str n2,.str x2,.int .i64 abT,ty2,lb2,kd2]:=by rw[ck];exact hx
      have RC:nth Z2 i=some [.int .i64 (Int.ofNat k3),.str m3,.str n3,.str x3,.int .i64 aem,ty3,lb3,kd3]:=by rw[ck];exact hy
      repeat first|refine bZ rfl ?_|refine cc _ RB ?_|refine cc _ RC ?_
      repeat refine cf ?_
      refine ih kids[i] _ _ om hai vy Y5 ?_;repeat refine cf ?_
      exact⟨i+1,hi',iK,.eS,Z,Z⟩
    ·exact a8 0 ⟨Z,Z⟩)):a:=b
def Rh(h:Nat)(ih:∀(g:Ex) (d d':cH),cP g<=h->ej g->je g d->je g d'->∀{σ:VS} {Y:cO->VS->Prop},Y (.ret (b6 true)) σ->b4 C ca fN [.agg (d.map V.d),.agg (d'.map V.d)] σ Y) 
  (g:Ex) (d d':cH) (R:cP g<=h+1) (Q:h+1<4294967295) (r:ej g) (H:je g d) (E:je g d'):b4 C ca fN [.agg (d.map V.d),.agg (d'.map V.d)] [] fun af A=>A=[]/\af=.ret (b6 true):=by
 have e:=fJ g;cases H with
 |mk J O v=>
 rename_i k m n x num types labels kids an ao aj;cases E with
 |mk w y l=>
 rename_i U ad ae;have q:=U5 r.node rfl;have N:=wb r rfl om;have D:cy types<=h:=by rw[k7,ga]at e;omega
 have ab:cQ kids<=h:=by rw[Ex.kids]at e;omega
 have W:=ju kids;have hak:=r.kids;clear e;obtain⟨j,b,G⟩:=O.inv2;obtain⟨f,c,o⟩:=y.inv2;obtain⟨my,hkl,z⟩:=v.inv2;obtain⟨Z2,adn,p⟩:=l.inv2;have S:=b.len;have e2:=hkl.len;have a:j.length=f.length:=by rw[b.len,c.len]
 have hKK:my.length=Z2.length:=by rw[hkl.len,adn.len]
 refine cm ?_;rcases G with⟨rfl,rfl⟩|⟨au,ar,av,rfl⟩<;>rcases o with⟨rfl,rfl⟩|⟨ai,ap,ah,rfl⟩<;>rcases z with⟨rfl,rfl⟩|⟨am,ak,al,rfl⟩<;>rcases p with⟨rfl,rfl⟩|⟨aa,X,ac,rfl⟩;all_goals
  repeat first|refine a7 (oJ _) ?_|refine a7 (kx _) ?_|refine a7 (H5 _) ?_|refine a7 (ry a) ?_|refine a7 (ry hKK) ?_|refine a7 (mV _) ?_
  refine zM h (fun aq d d' L I P=>ya h aq d d' om L I P) types _ _ D om J w ?_;repeat first|refine a7 (oJ _) ?_|refine a7 (kx _) ?_|refine a7 (H5 _) ?_|refine a7 (ry a) ?_|refine a7 (ry hKK) ?_|refine a7 (mV _) ?_
  first
   |(refine cd.loop ?_
     exact adm)
   |(refine cD (dB:=[(2,.bp 0 0),(3,.bp 1 0),(5,b5 0)]) ?_
     refine Bl (fun i:Nat=>[(2,.bp 0 0),(3,.bp 1 0),(5,b5 i)]) (fun i=>labels.length-i) (fun i=>i<=labels.length) ?_ 0 (agr _);intro i hi;apply aZ<;>intro hc
     ·try exact absurd (a▸ee hc) (Nat.not_lt_zero _)
      all_goals
       have hi':i<labels.length:=S▸ee hc;have hle:=q _ (agu hi');obtain⟨d,hx,vy⟩:=b.get hi';obtain⟨d',hy,Y5⟩:=c.get hi';generalize labels[i]=ag at hx hy vy Y5 hle;obtain⟨k2,m2,u,T,f2,rfl⟩:=vy.cZ;obtain⟨k3,m3,t,M,f3,rfl⟩:=Y5.cZ;obtain⟨F,B,K,s⟩:=ag;have RB:nth j i=some [.str F,.str B,.int .i64 (agj k2),.str m2,.str u,T,f2,.bool s]:=by rw[ck];exact hx
       have RC:nth f i=some [.str F,.str B,.int .i64 (agj k3),.str m3,.str t,M,f3,.bool s]:=by rw[ck];exact hy
       repeat first|refine bZ rfl ?_|refine cc _ RB ?_|refine cc _ RC ?_
       repeat refine cf ?_
       repeat first|refine a7 (oJ _) ?_|refine a7 (kx _) ?_|refine a7 (H5 _) ?_|refine a7 (ry a) ?_|refine a7 (ry hKK) ?_|refine a7 (mV _) ?_
       refine ya (h+1) K _ _ Q (Nat.le_trans hle R) vy Y5 ?_;repeat first|refine a7 (oJ _) ?_|refine a7 (kx _) ?_|refine a7 (H5 _) ?_|refine a7 (ry a) ?_|refine a7 (ry hKK) ?_|refine a7 (mV _) ?_
       exact⟨i+1,hi',iK,.eD 2,Z,Z⟩
     ·exact adm)
def U6:∀(n:Nat) (b:Ex) (d a:cH),n<4294967295->cP b<=n->ej b->je b d->je b a->∀{σ:VS} {f:cO->VS->Prop},f (.ret (b6 true)) σ->b4 C ca fN [.agg (d.map V.d),.agg (a.map V.d)] σ f:=by
 intro n;induction n with
 |zero=>intro b d a _ v;have:=gP b;omega
 |succ n q=>
  intro b d a p v r e c σ f i;have h:=Rh n (fun b d a j g o=>q b d a om j g o) b d a v p r e c;obtain⟨k,m,n,x,num,B,D,y,rfl⟩:=e.eight;obtain⟨A,E,w,z,l,s,t,u,rfl⟩:=c.eight;exact cC h Z Z i
def c0:cq->List cq
 |[]=>[[]]
 |c::a=>if c.toNat=47 then []::c0 a else match c0 a with
  |[]=>[[c]]
  |x::b=>(c::x)::b
def tS:cq->Bool
 |[]=>false
 |v::a=>decide (v=118)&&(!decide (a=[])&&(decide (a.length<=3)&&(!(decide (1<a.length)&&decide (agj (a.headD 0).toNat=48))&&a.all isDigit)))
def tF(c:UInt8):Bool:=k9 c||isDigit c
def fV(a:cq):Bool:=tS ((c0 a).getLastD [])&&(decide (a.length<=64)&&(decide (2<=(c0 a).length)&&(c0 a).all fun x=>cK x&&x.all tF))
def r8{a:Nat}(c:0<a)(d:a<9223372036854775807):IntKind.i64.wrap (agj a-1)=agj (a-1):=by
 obtain⟨b,rfl⟩:∃b,a=b+1:=⟨a-1,om⟩;rw[show agj (b+1)-1=agj b+agj 0 by simp only[agp];omega];exact c4 om
def lR(s:cq):c0 s≠[]:=by
 cases s with
 |nil=>simp[c0]
 |cons a b=>
  rw[c0];split
  ·simp
  ·split<;>simp
def Du(s:cq):(c0 s).length=countB 47 s+1:=by
 induction s with
 |nil=>rfl
 |cons e d a=>
  rw[c0,countB];by_cases c:e.toNat=47
  ·rw[if_pos c,c];simp[a]
  ·rw[if_neg c,show agv e.toNat 47=false by rw[<-Bool.not_eq_true,Nat.beq_eq];exact c];cases b:c0 d with
   |nil=>exact absurd b (lR d)
   |cons x f=>rw[b]at a;simpa using a
theorem J8(a:cq):∀b,(indexByte a 47 b= -1/\c0 a=[a])∨∃m,m<a.length/\indexByte a 47 b=agj (b+m)/\c0 a=a.take m::c0 (a.drop (m+1)):=by
 induction a with
 |nil=>intro b;exact .inl ⟨rfl,rfl⟩
 |cons g i d=>
  intro b;rw[c0,indexByte];by_cases c:g.toNat=47
  ·rw[if_pos c,c];exact .inr ⟨0,by simp,Z,Z⟩
  ·rw[if_neg c,show agv g.toNat 47=false by rw[<-Bool.not_eq_true,Nat.beq_eq];exact c];rcases d (b+1)with⟨f,e⟩|⟨m,f,e,h⟩
   ·exact .inl ⟨f,by rw[e]⟩
   ·refine .inr ⟨m+1,by simpa using f,?_,by rw[h];rfl⟩;rw[show b+(m+1)=b+1+m by omega];exact e
def Qo(a:cq):C.ext tO ([D.str a,uy 47].map cz)=some (cz (.int .i64 (agj (countB 47 a)))):=rfl
def index_spec(c:cq){x:Int}(b:indexByte c 47 0=x){σ:VS}{f:cO->VS->Prop}(a:f (.ret (.d (.int .i64 x))) σ):b4 C ca By [cn c,cn [47]] σ f:=by
 refine cj ?_;refine cj ?_;apply aZ<;>intro e
 ·have d: [47]=c:=of_decide_eq_true e;subst d;subst b;repeat refine cg e ?_
  exact a
 ·repeat refine a7 e ?_
  refine bZ Z (cc 47 Z ?_);refine tD c 47 ?_;subst b;exact a
def WH(l:List cq)(k:Nat):List (List V):=l.map (fun x=>[cn x])++xo [cn []] k
theorem Ot{l:List cq}{n k:Nat}(a:n=k+1):nth (WH l n) (0+l.length)=some [cn []]:=by
 subst a;rw[ck,WH,agB,List.getElem?_append_right sm];simp only[agI,Nat.sub_self];rfl
theorem Ou{l:List cq}{n k:Nat}(a:n=k+1)(x:cq):(WH l n).set (0+l.length) [cn x]=WH (l++[x]) k:=by
 subst a;rw[WH,agB,List.set_append_right _ _ sm];simp only[agI,Nat.sub_self,WH,agH,List.append_assoc];rfl
def aa7{l:List cq}{d c:cq}{n:Nat}(a:n=0+1)(b:c0 c=l++[d]):(WH l n).set (0+l.length) [cn d]=(eW (c0 c)).map fun e=>e.map V.d:=by
 rw[Ou a,b];simp[WH,eW,xo,Function.comp_def];exact⟨fun _ _=>Z,Z⟩
def J9(s:cq)(D:s.length<4294967296):b4 C ca tz [cn s,cn [47]] [] fun r w=>w=[]/\cM r=true/\∃f t,r=.ret (.d (.ps f 0 1 t (eW (c0 s)))):=by
 have H:countB 47 s<=s.length:=by
  clear D;exact abW
 have p:=Du s;refine cm ?_;refine cj ?_;refine cj ?_;refine bZ Z (cc 47 Z ?_);refine xE (.int .i64 (agj (countB 47 s))) (Qo s) Z ?_;obtain⟨a,y⟩:∃a,a=countB 47 s:=⟨_,rfl⟩;have g:min (IntKind.i64.wrap (agj (countB 47 s)+1)) (IntKind.i64.wrap (agj s.length+1))=agj (a+1):=by
  rw[cp om,cp om,y];exact Fe
 refine bZ g ?_;refine a6 ⟨Z,?_,?_⟩ ?_
 ·show(a+1)*16<=_;omega
 ·omega
 refine cd.less (dB:=[(0,cn s),(1,cn [47]),(2,b5 0),(3,b5 a),(9,.ms 0 1 0 (a+1) (a+1)),(10,b5 0)]) ⟨Z,Z,Z,int_eq (by show IntKind.i64.wrap (min _ _-1)=_;rw[g];exact r8 om om),Z,Z,tv⟩ ?_;refine cd.iter (fun d:List cq×cq=>[(0,cn d.2),(1,cn [47]),(2,b5 0),(3,b5 a),(9,.ms 0 1 0 (a+1) (a+1)),(10,b5 d.1.length)]) (fun d=>[.row 1 (WH d.1 (a+1-d.1.length))]) (fun d=>d.2.length)
  (fun d=>c0 s=d.1++c0 d.2/\d.2.length<=s.length) ?_ ([],s) ⟨rfl,agl _⟩
 rintro⟨b,r⟩ ⟨u,o⟩;have n:c0 s=b++c0 r:=u;have F:r.length<=s.length:=o;have l:b.length+(c0 r).length=a+1:=by rw[<-ago,<-n,p,y]
 clear u o;have A:0<(c0 r).length:=agP.2 (lR r);obtain⟨k,h⟩:∃k,(c0 r).length=k+1:=⟨(c0 r).length-1,om⟩;have e:a+1-b.length=k+1:=om;apply aZ<;>intro G
 ·have z:b.length<a:=ee G;rcases J8 r 0 with⟨_,d⟩|⟨m,d,f,B⟩
  ·rw[d]at h;simp at h;omega
  ·rw[agB]at f;refine index_spec r f ?_;refine bZ (m:=m) (c4 (b:=0) om) ?_;refine a6 ⟨agr _,by show m<=r.length;omega⟩ ?_;refine bZ Z ?_;refine a6 (by show b.length<a+1;omega) ?_;refine cc [cn []] (Ot e) ?_;refine bZ (m:=m+1) (c4 (b:=1) om) ?_;refine a6 ⟨by show m+1<=r.length;omega,agl _⟩ ?_;have j:a+1-(b++[r.take m]).length=k:=by simp only[ago,agm,agq];omega
   refine⟨(b++[r.take m],r.drop (m+1)),⟨by rw[n,B];simp,by show(r.drop (m+1)).length<=s.length;rw[List.length_drop];omega⟩,by show(r.drop (m+1)).length<r.length;rw[List.length_drop];omega,.same ⟨congrArg (fun x=>some (cn (agC (m+1) x))) List.take_length,Z,Z,Z,Z,int_eq (by show IntKind.i64.wrap (agj b.length+1)=agj (b++[r.take m]).length;rw[cp om];simp),tv⟩ (congrArg (fun j=>[cN.row 1 j]) ((Ou e (r.take m)).trans (by rw[j]))),Z,Z⟩
 ·have z:a<=b.length:=dq G;have v:c0 r=[r]:=by
   rcases J8 r 0 with⟨_,d⟩|⟨m,_,_,B⟩
   ·exact d
   ·have J:0<(c0 (r.drop (m+1))).length:=agP.2 (lR _);rw[B,agm]at l;omega
  have q:k=0:=by rw[v]at h;simpa using h.symm
  subst q;refine bZ Z ?_;refine a6 (by show b.length<a+1;omega) ?_;refine cc [cn []] (Ot e) ?_;refine bZ (m:=b.length+1) (cp (by show b.length<_;omega)) ?_;refine a6 ⟨agr _,by show b.length+1<=a+1;omega,agl _,agr _,Z,Z,Z⟩ ?_;have i:c0 s=b++[r]:=by rw[n,v]
  have E:b.length+1=(eW (c0 s)).length:=by rw[i];simp[eW]
  refine cU.freeze 0 (es:=1) (l:=eW (c0 s)) (congrArg (fun j=>some (cN.row 1 j)) (aa7 e i)) (gk _) (fun _=>⟨Z,by show 0+0+(b.length+1-0)<=_;omega⟩) (fun f=>?_);have j:wq 0 f (eW (c0 s)) (.ret (.ms 0 1 0 (b.length+1) (a+1)))=.ret (.d (.ps f (0*1) 1 (a+1) (eW (c0 s)))):=by
   show cO.ret (o5 0 f (eW (c0 s)) (.ms 0 1 0 (b.length+1) (a+1)))=_;rw[o5,kz];show cO.ret (V.d (.ps f (0*1) 1 (a+1) (((eW (c0 s)).drop 0).take (b.length+1))))=_;rw[eT _ _ E]
  show cU 0 (wq 0 f (eW (c0 s)) (.ret (.ms 0 1 0 (b.length+1) (a+1)))) _ _;rw[j];refine cU.drop 0 Z (by rw[mJ]) Z (cU.now Z ?_);exact⟨Z,Z,f,a+1,Z⟩
structure mM where
 n:cq
 vr:Nat
 b:Ty
structure jX where
 k:Nat
 n:cq
 exp:Bool
 wj:Bool
 note:cq
 ps:List mM
 lo:Ty
 up:Ty
 ty:Ty
 ex:Ex
 m:cq
 tg:cq
structure vY where
 p:cq
 a:cq
structure FO where
 p:cq
 is:List vY
 ds:List jX
def jY(k:Nat)(a:Rd)(p:Nat):PR cq:=if(a.tok p).kind≠k then .bad (a.tok p).off 3 else .ok (a.tok p).text (p+1)
def oU(a:Rd):Nat->cq->Nat->PR cq
 |0,_,_=>.bad 0 3
 |f+1,c,b=>if c5 (a.tok b) [47]then match dh a (b+1)with
   |.bad g h=>.bad g h
   |.ok e d=>oU a f (c++47::e) d
  else .ok c b
def hP(b:Rd)(p:Nat):PR cq:=match dh b p with
 |.bad d e=>.bad d e
 |.ok a c=>match oU b b.ts.length a c with
  |.bad d e=>.bad d e
  |.ok a c=>if fV a then .ok a c else .bad (b.tok p).off 4
def qY{a:Type}(step:a->Nat->PR a)(d:Rd):Nat->a->Nat->PR a
 |0,_,_=>.bad 0 3
 |f+1,e,h=>match step e h with
  |.bad g i=>.bad g i
  |.ok b c=>if c5 (d.tok c) [44]then qY step d f b (c+1)else(cu d [[93]] c).map fun _=>b
def jZ{a:Type}(step:a->Nat->PR a)(b:Rd)(c:a)(p:Nat):PR a:=if c5 (b.tok p) [91]then qY step b b.ts.length c (p+1)else .ok c p
def xJ(t:Tok):Option Nat:=if c5 t [43]then some 0 else if c5 t [45]then some 1 else if c5 t [61]then some 2 else none
def gG(b:Rd)(a:List mM)(p:Nat):PR (List mM):=match xJ (b.tok p)with
 |none=>.bad (b.tok p).off 3
 |some d=>(jY 2 b (p+1)).map fun c=>a++[⟨c,d,cV⟩]
def ia(c:Nat->PR Ty)(e:Rd)(a:List mM)(p:Nat):PR (List mM):=match jY 2 e p with
 |.bad g h=>.bad g h
 |.ok d b=>if c5 (e.tok b) [60,58]then(c (b+1)).map fun f=>a++[⟨d,0,f⟩]else .ok (a++[⟨d,0,cV⟩]) b
def zm:Ty:=.mk 1 [] [] [] []
def oe:Ex:=.mk 0 [] [] [] 0 [] [] []
def oI(a:Nat->PR Ty)(c:Rd)(b:cq)(t0:Ty)(p:Nat):PR (Bool×Ty):=if c5 (c.tok p) b then(a (p+1)).map fun d=>(true,d)else .ok (false,t0) p
def dI{a:Type}(b:Nat->PR a)(e:Rd)(d:cq)(p:Nat):PR a:=match cu e [d] p with
 |.bad f g=>.bad f g
 |.ok _ c=>b c
def kt(b:Nat->PR Ty)(f:Rd)(h g:Bool)(a:cq)(p:Nat):PR jX:=match jY 2 f p with
 |.bad c d=>.bad c d
 |.ok n k=>match jZ (gG f) f [] k with
  |.bad c d=>.bad c d
  |.ok i q1=>match oI b f [62,58] zm q1 with
   |.bad c d=>.bad c d
   |.ok e q2=>match oI b f [60,58] cV q2 with
    |.bad c d=>.bad c d
    |.ok up q3=>(dI b f [61] q3).map fun j=>⟨0,n,h,g,a,i,if e.1||up.1 then e.2 else j,if e.1||up.1 then up.2 else j,j,oe,[],[]⟩
def mB(d:Nat->PR Ty)(h:Nat->PR Ex)(c:Rd)(g b:Bool)(a:cq)(p:Nat):PR jX:=match dh c p with
 |.bad e f=>.bad e f
 |.ok n j=>match jZ (ia d c) c [] j with
  |.bad e f=>.bad e f
  |.ok i q1=>match dI d c [58] q1 with
   |.bad e f=>.bad e f
   |.ok k q2=>(dI h c [61] q2).map fun x=>⟨1,n,g,b,a,i,cV,cV,k,x,[],[]⟩
def iS(a:Rd)(p:Nat):PR cq:=if(a.tok p).kind=2 then jY 2 a p else dh a p
def kQ(c:Rd)(d b:Bool)(a:cq)(p:Nat):PR jX:=match dh c p with
 |.bad f g=>.bad f g
 |.ok m h=>match dI (iS c) c [58,58] h with
  |.bad f g=>.bad f g
  |.ok e q1=>(dI (iS c) c [97,115] q1).map fun n=>⟨2,n,d,b,a,[],cV,cV,cV,oe,m,e⟩
def og(a:Rd)(p:Nat):PR (Bool×Bool×cq):=if c5 (a.tok p) [101,120,112,111,114,116]then
  if c5 (a.tok (p+1)) [100,101,112,114,101,99,97,116,101,100]then(jY 4 a (p+2)).map fun b=>(true,true,b)else .ok (true,false,[]) (p+1)
 else .ok (false,false,[]) p
def j6(d:Nat->PR Ty)(e:Nat->PR Ex)(b:Rd)(p:Nat):PR jX:=match og b p with
 |.bad f g=>.bad f g
 |.ok a c=>
  if c5 (b.tok c) [116,121,112,101]then kt d b a.1 a.2.1 a.2.2 (c+1)
  else if c5 (b.tok c) [108,101,116]then mB d e b a.1 a.2.1 a.2.2 (c+1)
  else if c5 (b.tok c) [117,115,101]then kQ b a.1 a.2.1 a.2.2 (c+1)
  else .bad (b.tok c).off 3
def iu(a:Rd)(p:Nat):PR vY:=match hP a p with
 |.bad e f=>.bad e f
 |.ok c b=>(dI (dh a) a [97,115] b).map fun d=>⟨c,d⟩
def fT(a:Rd):Nat->List vY->Nat->PR (List vY)
 |0,_,_=>.bad 0 3
 |f+1,c,b=>if c5 (a.tok b) [105,109,112,111,114,116]then match iu a (b+1)with
   |.bad g h=>.bad g h
   |.ok e d=>fT a f (c++[e]) d
  else .ok c b
def ib(c:Nat->PR Ty)(a:Nat->PR Ex)(d:Rd):Nat->List jX->List Nat->Nat->PR (List jX×List Nat)
 |0,_,_,_=>.bad 0 3
 |f+1,g,b,e=>if(d.tok e).kind≠0 then match j6 c a d e with
   |.bad k i=>.bad k i
   |.ok h j=>ib c a d f (g++[h]) (b++[(d.tok e).off]) j
  else .ok (g,b) e
def tQ(f:Nat->PR Ty)(b:Nat->PR Ex)(a:Rd)(p:Nat):PR (FO×List Nat):=match dI (hP a) a [109,111,100,117,108,101] p with
 |.bad d e=>.bad d e
 |.ok h g=>match fT a a.ts.length [] g with
  |.bad d e=>.bad d e
  |.ok c q1=>(ib f b a a.ts.length [] [] q1).map fun x=>(⟨h,c,x.1⟩,x.2)
def HF(p:mM)(b:cH):Prop:=∃a,eZ p.b a/\b=.str p.n:: .int .i64 (agj p.vr)::a
inductive vb:List mM->List cH->Prop
 |nil:vb [] []
 |cons {p:mM} {d:cH} {l:List mM} {els:List cH} (h:HF p d) (hl:vb l els):vb (p::l) (d::els)
inductive tG:List mM->D->Prop
 |nil:tG [] .ci
 |ps {b o cap:Nat} {l:List mM} {els:List cH} (h:vb l els):tG l (.ps b o 7 cap els)
def mR(k:Nat)(n:cq)(c b:Bool)(a:cq)(e:D)(lo h g d:cH)(m f:cq):cH:=
 [.int .i64 (agj k),.str n,.bool c,.bool b,.str a,e]++(lo++(h++(g++(d++[.str m,.str f]))))
def rs(x:jX)(f:cH):Prop:=∃b d e c a,tG x.ps b/\eZ x.lo d/\eZ x.up e/\eZ x.ty c/\je x.ex a/\f=mR x.k x.n x.exp x.wj x.note b d e c a x.m x.tg
inductive oh:List jX->List cH->Prop
 |nil:oh [] []
 |cons {p:jX} {d:cH} {l:List jX} {els:List cH} (h:rs p d) (hl:oh l els):oh (p::l) (d::els)
inductive zn:List jX->D->Prop
 |nil:zn [] .ci
 |ps {b o cap:Nat} {l:List jX} {els:List cH} (h:oh l els) (hc:els.length<=cap):zn l (.ps b o 31 cap els)
def fF(a:vY):cH:=[.str a.p,.str a.a]
inductive wY:List vY->D->Prop
 |nil:wY [] .ci
 |ps {b o cap:Nat} {l:List vY} (hc:l.length<=cap):wY l (.ps b o 2 cap (l.map fF))
inductive FP:List Nat->D->Prop
 |nil:FP [] .ci
 |ps {b o cap:Nat} {l:List Nat}:FP l (.ps b o 1 cap (l.map fun n=>[.int .i64 (agj n)]))
def At(m:FO)(c:cH):Prop:=∃a b,wY m.is a/\zn m.ds b/\c=[.str m.p,a,b]
def TX(c:UInt8){σ:VS}{d:cO->VS->Prop}(b:d (.ret (b6 (tF c))) σ):b4 C ca tB [io c] σ d:=by
 refine cj ?_;refine sJ c ?_;apply aZ<;>intro a
 ·exact cg a (cg a (eL (by simp only[tF,a,Bool.true_or]) b))
 ·refine a7 a (pZ c ?_);exact a7 a (eL (by simp only[tF,a,Bool.false_or]) b)
def sh{b:Bool}(a:(!b)=true):b=false:=by cases b with
 |true=>cases a
 |false=>rfl
def zJ{b:Bool}(a:(!b)=false):b=true:=by cases b with
 |false=>cases a
 |true=>rfl
def aa9:Dc tB tF:=⟨rfl,fun a=>TX a⟩
def WL(a:cq){σ:VS}{c:cO->VS->Prop}(b:c (.ret (.dS [cn a,b6 true])) σ):b4 C ca oS [cn (118::a),cn [118]] σ c:=by
 refine cj ?_;refine cj ?_;refine oE (118::a) [118] ?_;refine bZ Z ?_;refine a6 ⟨by show 1<=_;simp,agl _⟩ ?_;show c (.ret (.dS [V.d (.str (agC 1 (agE (118::a).length (118::a)))),b6 true])) σ;rw[List.take_length];exact b
theorem TY(a:cq)(d:eB a [118]=false){σ:VS}{c:cO->VS->Prop}(b:c (.ret (.dS [cn a,b6 false])) σ):b4 C ca oS [cn a,cn [118]] σ c:=by
 refine cj ?_;refine cj ?_;refine oE a [118] ?_;refine cg (by rw[d];rfl) ?_;exact b
theorem EW(s:cq)(m:s.length<4294967296):b4 C ca tA [cn s] [] fun b k=>k=[]/\cM b=true/\∃x,b=.ret (.dS [.d (.int .i64 x),b6 (tS s)]):=by
 refine cm ?_;cases s with
 |nil=>
  refine TY [] Z ?_;refine a8 0 ⟨Z,Z,_,Z⟩
 |cons l b=>
  by_cases e:l=118
  ·subst e;have n:b.length<4294967295:=by simp only[agm]at m;omega
   refine WL b ?_;have hI:tS (118::b)=(!decide (b=[])&&(decide (b.length<=3)&&(!(decide (1<b.length)&&decide (agj (b.headD 0).toNat=48))&&b.all isDigit))):=by rw[tS];rfl
   apply aZ<;>intro d
   ·have D2:b=[]:=of_decide_eq_true d;repeat refine cg d ?_
    refine a8 0 ⟨Z,Z,_,by rw[hI,D2];rfl⟩
   ·have D2:b≠[]:=of_decide_eq_false d;repeat refine a7 d ?_
    apply aZ<;>intro f
    ·have Ie:3<b.length:=ee (a:=3) f;repeat refine de ?_
     refine a8 0 ⟨Z,Z,_,by rw[hI,decide_eq_false D2,decide_eq_false (p:=b.length<=3) om];rfl⟩
    ·have Ie:b.length<=3:=dq (a:=3) f;repeat refine de ?_
     obtain⟨c,r2,rfl⟩:∃c r2,b=c::r2:=by cases b with
      |nil=>exact absurd rfl D2
      |cons c r2=>exact⟨c,r2,rfl⟩
     apply aZ<;>intro h
     ·have j:1<(c::r2).length:=ee (a:=1) h;repeat refine de ?_
      refine bZ Z (cc c Z ?_);repeat refine de ?_
      apply aZ<;>intro g
      ·repeat refine de ?_
       refine a8 0 ⟨Z,Z,_,by rw[hI,decide_eq_true j,show decide (agj ((c::r2).headD 0).toNat=48)=true from g];simp;rfl⟩
      ·have hB:(decide (1<(c::r2).length)&&decide (agj ((c::r2).headD 0).toNat=48))=false:=by rw[show decide (agj ((c::r2).headD 0).toNat=48)=false from g,agT]
       exact Ya
     ·have hB:(decide (1<(c::r2).length)&&decide (agj ((c::r2).headD 0).toNat=48))=false:=by rw[decide_eq_false (Nat.not_lt.2 (dq (a:=1) h)),agS]
      exact Ya
  ·refine TY (l::b) (by show(decide ((118:UInt8)=l)&&true)=false;rw[decide_eq_false fun o=>e o.symm];rfl) ?_;refine a8 0 ⟨Z,Z,_,by rw[tS,decide_eq_false e];rfl⟩
def HH(a:cq)(c:a.length<4294967296){σ:VS}{d:cO->VS->Prop}(b:∀x,d (.ret (.dS [.d (.int .i64 x),b6 (tS a)])) σ):b4 C ca tA [cn a] σ d:=
 b4.closed (P:=fun e=>∃x,e=.ret (.dS [.d (.int .i64 x),b6 (tS a)])) (EW a c) rfl (fun e ⟨x,f⟩=>by rw[f];exact b x)
def MM(b:cq)(e:b.length<4294967296){σ:VS}{f:cO->VS->Prop}(d:∀c a,f (.ret (.d (.ps c 0 1 a (eW (c0 b))))) σ):b4 C ca tz [cn b,cn [47]] σ f:=
 b4.closed (P:=fun g=>∃c a,g=.ret (.d (.ps c 0 1 a (eW (c0 b))))) (J9 b e) rfl (fun g ⟨c,h,i⟩=>by rw[i];exact d c h)
def HI(s:cq):∀x∈c0 s,x.length<=s.length:=by
 induction s with
 |nil=>intro x h;simp[c0]at h;subst h;exact agl _
 |cons e c a=>
  intro x h;rw[c0]at h;split at h
  ·rcases agF.1 h with rfl|h
   ·exact agr _
   ·exact agK (a x h)
  ·cases b:c0 c with
   |nil=>exact absurd b (lR c)
   |cons d f=>
    rw[b]at h a;rcases agF.1 h with rfl|h
    ·exact Nat.succ_le_succ (a d sm)
    ·exact agK (a x (by simp[h]))
theorem HJ(s:cq)(I:s.length<4294967296):b4 C ca uN [cn s] [] fun r J=>J=[]/\cM r=true/\r=.ret (b6 (fV s)):=by
 refine cm ?_;refine cj ?_;refine MM s I (fun L q=>?_);obtain⟨a,e⟩:∃a,a=c0 s:=⟨_,rfl⟩;have z:a≠[]:=e▸lR s;have v:∀x∈a,x.length<=s.length:=e▸HI s;have k:fV s=(tS (a.getLastD [])&&(decide (s.length<=64)&&(decide (2<=a.length)&&a.all fun x=>cK x&&x.all tF))):=by rw[fV,<-e]
 rw[<-e];have w:0<a.length:=agP.2 z;have i:(eW a).length=a.length:=by simp[eW]
 have n:∀d (h:d<a.length),nth (eW a) d=some [D.str a[d]]:=fun d h=>by rw[ck,eW,agL,ags h];rfl
 have M:a.length<=s.length+1:=by
  have Q:countB 47 s<=s.length:=by
   clear I v k e;exact abW
  rw[e,Du];omega
 have o:a.getLastD []=a[a.length-1]:=by rw[List.getLastD_eq_getLast?,List.getLast?_eq_getElem?,ags om];rfl
 have g:∀d (h:d<a.length),a[d].length<4294967296:=fun d h=>by have:=v _ (agu h);omega
 refine bZ (m:=a.length-1) (by rw[i];exact r8 w om) ?_;refine cc [.str (a[a.length-1])] (n _ om) ?_;refine HH _ (g _ om) (fun x=>?_);rw[<-o];apply aZ<;>intro E
 ·have l:=sh E;repeat refine de ?_
  refine a8 0 ⟨Z,Z,by rw[k,l];rfl⟩
 ·have l:=zJ E;repeat refine de ?_
  apply aZ<;>intro A
  ·have t:64<s.length:=ee (a:=64) A;repeat refine de ?_
   refine a8 0 ⟨Z,Z,by rw[k,decide_eq_false (p:=s.length<=64) om,agS,agT];rfl⟩
  ·have t:s.length<=64:=dq (a:=64) A;repeat refine de ?_
   apply aZ<;>intro H
   ·have u:a.length<2:=by have:=ee (b:=2) H;omega
    refine a8 0 ⟨Z,Z,by rw[k,decide_eq_false (p:=2<=a.length) om];simp;rfl⟩
   ·have u:2<=a.length:=by have:=dq (b:=2) H;omega
    have p:fV s=a.all fun x=>cK x&&x.all tF:=by rw[k,l,decide_eq_true t,decide_eq_true u];rfl
    refine cd.less (dB:=[(5,.d (.int .i64 x)),(33,.d (.ps L 0 1 q (eW a))),(34,b5 a.length),(35,b5 0)]) ⟨Z,Z,int_eq (by rw[i]),Z,tv⟩ ?_;refine cd.iter (fun d:Nat=>[(5,.d (.int .i64 x)),(33,.d (.ps L 0 1 q (eW a))),(34,b5 a.length),(35,b5 d)]) (fun _=>[]) (fun d=>a.length-d) (fun d=>d<=a.length/\(a.take d).all (fun x=>cK x&&x.all tF)=true) ?_ 0 ⟨agr _,Z⟩;rintro d ⟨P,y⟩;apply aZ<;>intro B
    ·have b:d<a.length:=ee B;have G:cK a[d]=false∨a[d].all tF=false->fV s=false:=fun h=>by
      rw[p,List.all_eq_false];exact⟨a[d],agu b,by rcases h with h|h<;>simp[h]⟩
     refine bZ Z ?_;refine cc [.str a[d]] (n d b) ?_;refine ic _ (g d b) ?_;apply aZ<;>intro F
     ·have f:=sh F;repeat refine de ?_
      refine a8 0 ⟨Z,Z,by rw[G (.inl f)];rfl⟩
     ·have f:=zJ F;repeat refine de ?_
      refine xV aa9 _ (g d b) ?_;repeat refine de ?_
      apply aZ<;>intro K
      ·have j:=sh K;repeat refine de ?_
       refine a8 0 ⟨Z,Z,by rw[G (.inr j)];rfl⟩
      ·have j:=zJ K;repeat refine de ?_
       refine⟨d+1,⟨b,?_⟩,iK,.eS,Z,Z⟩;rw[agQ,ags b];simp only[List.all_append,y,agV,List.all_cons,List.all_nil,f,j,agM]
    ·have b:a.length<=d:=dq B;rw[agD b]at y;refine a8 0 ⟨Z,Z,by rw[p,y];rfl⟩
def lH(a:cq)(c:a.length<4294967296){σ:VS}{d:cO->VS->Prop}(b:d (.ret (b6 (fV a))) σ):b4 C ca uN [cn a] σ d:=
 b4.closed (P:=fun e=>e=.ret (b6 (fV a))) (HJ a c) rfl (fun e f=>by rw[f];exact b)
structure StF (g:FuncId) (fn:Nat->PR cq) (R:Rd):Prop where
 lt:∀p s q,p<R.ts.length->fn p=.ok s q->p<q/\q<R.ts.length
 call:∀p,p<R.ts.length->∀(i:Nat) {σ:VS} {K:cO->VS->Prop},nth σ i=some (dp R p)->(∀s q,fn p=.ok s q->K (.ret (cn s)) (σ.set i (dp R q)))->(∀off e q,fn p=.bad off e->K (.eH (dt off e)) (σ.set i (dp R q)))->b4 C ca g [.bp i 0] σ K
def jG{b:Rd}(w:b.Wf){k p c:Nat}{s:cq}(d:k≠0)(h2:p<b.ts.length)(h:jY k b p=.ok s c):p<c/\c<b.ts.length:=by
 rw[jY]at h;split at h
 ·cases h
 ·rename_i a;have a:(b.tok p).kind=k:=by simpa using a
  exact XY
def nG{a:Rd}(q:a.Wf){k:Nat}(o:k≠0){p:Nat}(h:p<a.ts.length)(d:Nat){σ:VS}{j:cO->VS->Prop}(c:nth σ d=some (dp a p))(g:∀m e,jY k a p=.ok m e->j (.ret (cn m)) (σ.set d (dp a e)))(i:∀b f e,jY k a p=.bad b f->j (.eH (dt b f)) (σ.set d (dp a e))):
  b4 C ca uJ [.bp d 0,b5 k] σ j:=by
 have l:=q.len;refine se a p k _ (b0 h) om d c (fun n=>?_) (fun n=>?_)
 ·have f:eu (a.tok p) p=p+1:=by rw[eu,if_neg om]
  rw[f];exact g _ _ (by rw[jY,if_neg om])
 ·exact i _ _ _ (by rw[jY,if_pos n])
def pu{b:Rd}(n:b.Wf){p:Nat}(g:p<b.ts.length)(d:Nat){σ:VS}{i:cO->VS->Prop}(c:nth σ d=some (dp b p))(f:∀k e,dh b p=.ok k e->i (.ret (cn k)) (σ.set d (dp b e)))(h:∀a m e,dh b p=.bad a m->i (.eH (dt a m)) (σ.set d (dp b e))):
  b4 C ca wR [.bp d 0] σ i:=by
 have j:=n.len;refine kH b p _ (b0 g) om d c (fun l=>?_) (fun l=>?_)
 ·exact f _ _ (by rw[dh,if_neg om])
 ·exact h _ _ _ (by rw[dh,if_pos l])
def ve{i:Rd}(m:i.Wf):StF BB (iS i) i:=by
 have p:=m.len;refine⟨fun n s e l f=>?_,fun n g o σ q b j k=>?_⟩
 ·rw[iS]at f;split at f
  ·exact jG m dc l f
  ·exact fS m l f
 ·refine cj ?_;refine eF i n _ (b0 g) o b ?_;apply aZ<;>intro f
  ·have a:(i.tok n).kind=2:=AJ f;refine nG m dc g o b (fun s e d=>?_) (fun c h e d=>?_)
   ·exact j s e (by rw[iS,if_pos a,d])
   ·exact k c h e (by rw[iS,if_pos a,d])
  ·have a:(i.tok n).kind≠2:=fun d=>by rw[d]at f;cases f
   refine pu m g o b (fun s e d=>?_) (fun c h e d=>?_)
   ·exact j s e (by rw[iS,if_neg a,d])
   ·exact k c h e (by rw[iS,if_neg a,d])
def TZ{f:Rd}(k:f.Wf):∀(e:Nat) (s:cq) (d:Nat) (h:cq) (b:Nat),d<f.ts.length->oU f e s d=.ok h b->d<=b/\b<f.ts.length:=by
 intro e;induction e with
 |zero=>intro s d h b _ a;cases a
 |succ e g=>
  intro s d h b c a;rw[oU]at a;split at a
  ·rename_i i;split at a
   ·cases a
   ·rename_i n q1 j;obtain⟨p,m⟩:=fS k (k.step c i) j;obtain⟨o,l⟩:=g _ _ _ _ m a;exact⟨om,l⟩
  ·cases a;exact⟨agl _,c⟩
def T0{b:Rd}(g:b.Wf){p c:Nat}{s:cq}(e:p<b.ts.length)(a:hP b p=.ok s c):p<c/\c<b.ts.length:=by
 rw[hP]at a;split at a
 ·cases a
 ·rename_i j q1 f;obtain⟨l,i⟩:=fS g e f;split at a
  ·cases a
  ·rename_i m q2 d;obtain⟨k,h⟩:=TZ g _ _ _ _ _ i d;split at a
   ·cases a;exact⟨om,h⟩
   ·cases a
def Zz(e:Rd)(x:PR cq)(d:cO)(b:List V):Prop:=match x with
 |.ok f c=>b=xa e c/\d=.ret (cn f)
 |.bad a g=>∃c,b=xa e c/\d=.eH (dt a g)
def StF.of{l:FuncId}{fn:Nat->PR cq}{c:Rd}(d:∀b m q,b<c.ts.length->fn b=.ok m q->b<q/\q<c.ts.length)(h:∀b,b<c.ts.length->b4 C ca l [.bp 0 0] [dp c b] fun j g=>∃a,g=[.box a]/\cM j=true/\fu 0 a=true/\Zz c (fn b) j a):StF l fn c:=by
 refine⟨d,fun b k o σ p f i k2=>?_⟩;refine b4.one (dM:=[.bp 0 0]) (P:=Zz c (fn b)) (h b k) o f Z Z Z (fun j a h=>?_);unfold Zz at h;split at h
 ·rename_i n q e;obtain⟨rfl,rfl⟩:=h;exact i n q e
 ·exact Vp
def Rd.Nm.short{c:Rd}(g:c.Nm){p f:Nat}{s:cq}(e:p<c.ts.length)(d:dh c p=.ok s f):s.length<=32/\f=p+1:=by
 rw[dh]at d;split at d
 ·cases d
 ·rename_i a;have a:(c.tok p).kind=1:=by simpa using a
  have b:=(g p e).1 a;cases d;simp only[cK,agR,decide_eq_true_eq]at b;exact⟨b.1.1.1.2,Z⟩
theorem xO{a:Rd}(q:a.Wf)(n:a.Nm)(I:a.ts.length<=65537):StF EH (hP a) a:=by
 have E:=q.len;refine StF.of (fun p f j D r=>T0 q D r) (fun p m=>?_);refine cj ?_;refine eF a p _ (b0 m) 0 Z ?_;refine pu q m 0 Z (fun d c o=>?_) (fun x C j G=>?_)
 ·obtain⟨_,u⟩:=fS q m o;obtain⟨H,O⟩:=n.short m o;refine cD (dB:=[(0,.bp 0 0),(3,b5 (a.tok p).off),(4,cn d)]) ?_;refine cd.iter (fun e:Nat×cq=>[(0,.bp 0 0),(3,b5 (a.tok p).off),(4,cn e.2)]) (fun e=>[dp a e.1]) (fun e=>a.ts.length-e.1)
   (fun e=>e.1<a.ts.length/\e.2.length<=33*e.1/\∃l,a.ts.length-e.1<=l/\oU a a.ts.length d c=oU a l e.2 e.1) ?_ (c,d) ⟨u,by show d.length<=33*c;omega,_,by show a.ts.length-c<=a.ts.length;omega,rfl⟩
  rintro⟨j,f⟩ ⟨w,s,l,A,v⟩;have t:j<a.ts.length:=w;have N:f.length<=33*j:=s;have M:a.ts.length-j<=l:=A;have b:oU a a.ts.length d c=oU a l f j:=v;clear w s A v;obtain⟨l,rfl⟩:∃F,l=F+1:=⟨l-1,om⟩;rw[oU]at b;have k:hP a p=match oU a a.ts.length d c with
    |.bad L G=>.bad L G
    |.ok f j=>if fV f then .ok f j else .bad (a.tok p).off 4:=by rw[hP,o];try rfl
  refine cI a j (a.tok j) [47] (b0 t) om 0 Z (fun r=>?_) (fun r=>?_)
  ·have g:=q.step t r;rw[if_pos r]at b;refine pu q g 0 Z (fun B q2 h=>?_) (fun x C q2 h=>?_)
   ·obtain⟨_,z⟩:=fS q g h;obtain⟨K,P⟩:=n.short g h;rw[h]at b;refine a6 ?_ ?_
    ·show 1+B.length<=_;omega
    refine a6 ?_ ?_
    ·show f.length+(47::B).length<=_;simp only[agm];omega
    refine⟨(q2,f++47::B),⟨z,by show(f++47::B).length<=33*q2;simp only[ago,agm];omega,l,by show a.ts.length-q2<=l;omega,b⟩,by show a.ts.length-q2<a.ts.length-j;omega,.eS,Z,Z⟩
   ·rw[h]at b;rw[b]at k;exact⟨_,Z,Z,Z,by rw[k];exact⟨_,rfl,rfl⟩⟩
  ·rw[if_neg (by rw[r];decide)]at b;rw[b]at k;refine lH f om ?_;apply aZ<;>intro y
   ·have i:fV f=false:=by simpa using y
    refine fK _ (a.tok p).off 4 ?_;exact⟨_,Z,Z,Z,by rw[k];dsimp only;rw[if_neg (by rw[i];decide)];exact⟨_,rfl,rfl⟩⟩
   ·have i:fV f=true:=by simpa using y
    exact⟨_,Z,Z,Z,by rw[k];dsimp only;rw[if_pos i];exact⟨rfl,rfl⟩⟩
 ·exact⟨_,Z,Z,Z,by rw[hP,G];exact⟨_,rfl,rfl⟩⟩
def rr.acU{n:Nat}{σ fU:VS}(q:rr n σ fU){a:List Nat}(hcs:∀i∈a,i<n)(h0:0<n){g:uw}{c:Code}{f:Tm}{b:FuncId}{p:Bu->Tm->List fq->lJ->VS->Prop}(h:g.fl=n) 
  (k:mP [(0,.bp 0 0),(1,.fn b [] (nC a))] f) (l:cd C ca g c [(0,.bp 0 0),(1,.fn b [] (nC a))] [] .none fU p):cd C ca g c f [] .none σ p:=by
 obtain⟨d,j,m,h3,o⟩:=q;have e:∀i,i<n->jT d σ.length i=i:=fun i hi=>by
  have:=rW j hi;rw[kM this];omega
 refine cd.pick n d (dB:=[(0,.bp 0 0),(1,.fn b [] (nC a))]) ?_ ?_ (by rw[h,agU];exact agl n) j Z Z m o l
 ·show mP [(0,V.bp (jT d σ.length 0) 0),(1,V.fn b [] (hU (jT d σ.length) (nC a)))] f;rw[e 0 h0,J5 hcs e];exact k
 ·show(Nat.blt 0 fU.length&&(((true&&fu fU.length (nC a))&&true)))=true;exact aad
def ad6:Nat->Bool:=fun a=>agv a 5||agv a 13||agv a 1000002
def FQ{m s:Type}{b:Rd}(T:b.Wf)(step:m->Nat->PR m)(I:m->s->Nat->Prop)(x:s->VS)(i:VS)(n:Nat)(o:FuncId)(R:(C.ff.get o).isSome=true)(k:List Nat){g0:m}{a0:s}{p:Nat}(aa:p<b.ts.length)(E:c5 (b.tok p) [91]=true)(L:I g0 a0 (p+1))(Q:∀j c d,I j c d->I j c (d+1))(W:i++[.gone]=x a0)(ad:i.length+1=n)(y:∀c,n<=(x c).length+1)(O:∀am∈k,am<n) 
  (ac:∀j c d,I j c d->p<=d->d<b.ts.length->∀A:cO->VS->Prop,
   (∀l g a e,step j d=.ok l a->I l g a->d<a->a<b.ts.length->rr n (dp b a::e) (dp b a::x g)->A (.ret (.dS [])) (dp b a::e))->
   (∀h u a e,step j d=.bad h u->n<=e.length+1->A (.eH (dt h u)) (dp b a::e))->b4 C ca o (nC k) (dp b d::x c) A)
  {U:cO->VS->Prop} (D:∀j c d,jZ step b g0 p=.ok j d->I j c d->p<d->d<b.ts.length->U (.ret (.dS [])) (dp b d::x c))
  (v:∀h u d e,jZ step b g0 p=.bad h u->n<=e.length+1->U (.eH (dt h u)) (dp b d::e)):
  b4 C ca EM [.bp 0 0,.fn o [] (nC k)] (dp b p::i) U:=by
 have Y:=T.len;refine cv ad6 (fun _=>Z) ?_;intro ak;refine gZ T [91] aa ak _ 0 Z (fun _ B=>?_) (fun al=>absurd al (by rw[E];decide));refine cD (dB:=[(0,.bp 0 0),(1,.fn o [] (nC k))]) ?_;refine cd.gone ?_;show cd _ _ _ _ _ _ _ (dp b (p+1)::(i++[.gone])) _;rw[W];refine cd.iter (fun _:Nat×m×s=>[(0,.bp 0 0),(1,.fn o [] (nC k))]) (fun c=>dp b c.1::x c.2.2) (fun c=>b.ts.length-c.1)
  (fun c=>p<c.1/\c.1<b.ts.length/\I c.2.1 c.2.2 c.1/\∃r,b.ts.length-c.1<=r/\jZ step b g0 p=qY step b r c.2.1 c.1) ?_ (p+1,g0,a0) ⟨Nat.lt_succ_self p,B,L,_,by show b.ts.length-(p+1)<=b.ts.length;omega,by rw[jZ,if_pos E]⟩
 rintro⟨d,j,c⟩ ⟨M,H,F,r,J,K⟩;have af:p<d:=M;have X:d<b.ts.length:=H;have P:I j c d:=F;have aj:b.ts.length-d<=r:=J;have f:jZ step b g0 p=qY step b r j d:=K;clear M H F J K L;obtain⟨r,rfl⟩:∃ab,r=ab+1:=⟨r-1,om⟩;rw[qY]at f;conv=>whnf
 rw[R];refine ac j c d P om X _ (fun l g a e u w ae q N=>?_) (fun h ai a e u G=>?_)
 ·rw[u]at f;dsimp only at f;refine N.acU O om ad ⟨Z,Z,tv⟩ ?_;refine xC ?_;refine cI b a (b.tok a) [44] (b0 q) om 0 Z (fun t=>?_) (fun t=>?_)
  ·rw[if_pos t]at f;refine⟨(a+1,l,g),⟨by show p<a+1;omega,T.step q t,Q _ _ _ w,r,by show b.ts.length-(a+1)<=r;omega,f⟩,by show b.ts.length-(a+1)<b.ts.length-d;omega,.eS,Z,Z⟩
  ·rw[if_neg (by rw[t];decide)]at f;intro V;refine gZ T [93] q V _ 0 Z (fun z S=>?_) (fun z ag=>?_)
   ·rw[vX z]at f;refine cU.now (by rw[agU];show i.length+1<=(x g).length+1;have:=y g;omega) ?_;exact D l g (a+1) f (Q _ _ _ w) om S
   ·refine cU.now (by rw[agU];show i.length+1<=(x g).length+1;have:=y g;omega) ?_;exact v _ _ _ _ (by rw[f];simp only[cu,z,if_false,agn,PR.map]) (y g)
 ·rw[u]at f;refine cU.now (by rw[agU];show i.length+1<=e.length+1;omega) ?_;exact v _ _ _ _ f G
def vb.len{l:List mM}{els:List cH}(h:vb l els):els.length=l.length:=by
 exact RZ
def vb.snoc{l:List mM}{els:List cH}{p:mM}{b:cH}(h:vb l els)(hp:HF p b):vb (l++[p]) (els++[b]):=by
 exact aam
abbrev ZT(k:Nat)(n:cq)(f e:Bool)(a:cq)(c d:V)(b:List V):List V:=b5 k::cn n::b6 f::b6 e::cn a::c::d::b
def tdT(k:Nat)(n:cq)(f e:Bool)(b:cq)(d:V)(c:List V)(a:List cH):VS:=[.box (ZT k n f e b (kV 4 7 a) d c),.box [.bp 0 0],.box [.bp 1 0],kO 7 a]
def tdI(l:List mM)(a:List cH)(b:Nat):Prop:=vb l a/\a.length<=b
def acV:Nat->Bool:=fun a=>agv a 4||agv a 23||agv a 28
def oq:eZ cV [.int .i64 0,.str [],.str [],.ci,.ci]:=.mk .nil .nil
def T1{d:Nat->Nat}{k:Nat}{n:cq}{h f:Bool}{c:cq}{e:V}{a:List V}{i b:V}(g:fu 0 (e::a)=true)(j:i=gW d b):some (cN.box (ZT k n h f c i e a))=some (hV d (.box (ZT k n h f c b e a))):=by
 subst j;show _=some (cN.box (b5 k::cn n::b6 h::b6 f::cn c::gW d b::hU d (e::a)));rw[fL _ _ g]
def DA{d:Nat->Nat}{g h:Nat}{k:Nat}{n:cq}{i e:Bool}{b:cq}{c:V}{a:List V}{j:cH}(f:fu 0 (c::a)=true)(l:d g=h):some (cN.box (ZT k n i e b (.ms h 7 0 1 1) c a))=some (hV d (.box (ZT k n i e b (kV g 7 ([]++[j])) c a))):=T1 f (by subst l;rfl)
def DX{e:Nat->Nat}{j l:Nat}{k:Nat}{n:cq}{m g:Bool}{b:cq}{d:V}{a:List V}{f i:cH}{c:List cH}(h:fu 0 (d::a)=true)(o:e j=l):some (cN.box (ZT k n m g b (.ms l 7 0 (c.length+1+1) (c.length+1+1)) d a))=some (hV e (.box (ZT k n m g b (kV j 7 ((f::c)++[i])) d a))):=T1 h (by subst o;rw[nB];exact li _ 7 f c i)
theorem wZ{m k:Nat}{n:cq}{h d:Bool}{b:cq}{c:V}{a:List V}{f:V}(e:fu 0 (c::a)=true)(g:bd m f=true):fW m (.box (ZT k n h d b f c a))=true:=by
 show(true&&(true&&(true&&(true&&(true&&(bd m f&&fu m (c::a)))))))=true;rw[g,gx m _ e];rfl
def T2{c:Rd}(u:c.Wf)(k:Nat)(n:cq)(L H:Bool)(y:cq){E:V}{p:List V}(d:fu 0 (E::p)=true)(l:List mM)(j:List cH)(e:Nat)(K:tdI l j e)(f:e<c.ts.length)(F:cO->VS->Prop) 
  (r:∀I G g w,gG c l e=.ok I g->tdI I G g->e<g->g<c.ts.length->rr 4 (dp c g::w) (dp c g::tdT k n L H y E p G)->F (.ret (.dS [])) (dp c g::w))
  (k2:∀i x g w,gG c l e=.bad i x->4<=w.length+1->F (.eH (dt i x)) (dp c g::w)):b4 C ca oQ (nC [2,3]) (dp c e::tdT k n L H y E p j) F:=by
 have J:=u.len;obtain⟨t,b⟩:=K;refine b4.body acV (fun _=>Z) ?_;intro M;refine cj ?_;refine cd.loop ?_;refine bZ Z (cc [.str [43]] Z ?_);refine cI c e (c.tok e) [43] (b0 f) om 0 Z (fun o=>?_) (fun o=>?_)
 ·have xS:gG c l e=(jY 2 c (e+1)).map fun q=>l++[⟨q,0,cV⟩]:=by simp only[gG,xJ,o,if_true]
  intro A;refine bZ Z (cc [.int .i64 0] Z ?_);repeat refine a6 (by repeat' (first|exact tv|exact rfl|refine bZ rfl ?_|refine cc [.int .i64 0] rfl ?_|refine agt ?_ ?_)) ?_
  refine nG (k:=2) u dc (u.step f o) 0 ?_ (fun q q2 e2=>?_) (fun i x q2 e2=>?_)
  ·exact Z
  ·obtain⟨B,a⟩:=jG u dc (u.step f o) e2;rw[e2]at xS;repeat refine a6 (by repeat' (first|exact tv|exact rfl|refine bZ rfl ?_|refine cc [.int .i64 0] rfl ?_|refine agt ?_ ?_)) ?_
   intro D;rcases j with _|⟨v,m⟩
   ·refine a6 (by repeat' (first|exact tv|exact rfl|refine bZ rfl ?_|refine cc [.int .i64 0] rfl ?_|refine agt ?_ ?_)) ?_;refine a6 Z (a6 ⟨agk Z,agk Z⟩ (a7 Z ?_));repeat refine a6 (by repeat' (first|exact tv|exact rfl|refine bZ rfl ?_|refine cc [.int .i64 0] rfl ?_|refine agt ?_ ?_)) ?_
    refine r _ _ _ _ xS ⟨t.snoc ⟨_,oq,Z⟩,by simp only[ago,agm,agq]at b⊢;omega⟩ om a ⟨[0,1,2,3,5],Z,dc,by show 4<=5;omega,Z,Z,DA d Z,wZ d (kZ 7 _ Z),Z,Z,Z,Z,lj _ 7 [.str q,.int .i64 (agj 0),.int .i64 0,.str [],.str [],.ci,.ci],gH _ _ _,tv⟩
   ·have h:m.length+1<=4294967296:=by simp only[agm]at b;omega
    refine a6 (by repeat' (first|exact tv|exact rfl|refine bZ rfl ?_|refine cc [.int .i64 0] rfl ?_|refine agt ?_ ?_)) ?_;refine a6 Z (a6 ⟨Z,Z,by simp,agl _,rB h (agl _) (agk Z)⟩ (a7 Z (a7 (lk _) ?_)));repeat refine a6 (by repeat' (first|exact tv|exact rfl|refine bZ rfl ?_|refine cc [.int .i64 0] rfl ?_|refine agt ?_ ?_)) ?_
    refine r _ _ _ _ xS ⟨t.snoc ⟨_,oq,Z⟩,by simp only[ago,agm,agq]at b⊢;omega⟩ om a ⟨[0,1,2,3,5],Z,dc,by show 4<=5;omega,Z,Z,DX d Z,wZ d (kZ 7 _ Z),Z,Z,Z,Z,jQ _ 7 v m [.str q,.int .i64 (agj 0),.int .i64 0,.str [],.str [],.ci,.ci],gH _ _ _,tv⟩
  ·exact X0
 ·refine cd.loop ?_;refine bZ Z (cc [.str [45]] Z ?_);refine cI c e (c.tok e) [45] (b0 f) om 0 Z (fun s=>?_) (fun s=>?_)
  ·have xS:gG c l e=(jY 2 c (e+1)).map fun q=>l++[⟨q,1,cV⟩]:=by simp only[gG,xJ,o,s,agn,if_false,if_true]
   intro A;refine bZ Z (cc [.int .i64 1] Z ?_);repeat refine a6 (by repeat' (first|exact tv|exact rfl|refine bZ rfl ?_|refine cc [.int .i64 1] rfl ?_|refine agt ?_ ?_)) ?_
   refine nG (k:=2) u dc (u.step f s) 0 ?_ (fun q q2 e2=>?_) (fun i x q2 e2=>?_)
   ·exact Z
   ·obtain⟨B,a⟩:=jG u dc (u.step f s) e2;rw[e2]at xS;repeat refine a6 (by repeat' (first|exact tv|exact rfl|refine bZ rfl ?_|refine cc [.int .i64 1] rfl ?_|refine agt ?_ ?_)) ?_
    intro D;rcases j with _|⟨v,m⟩
    ·refine a6 (by repeat' (first|exact tv|exact rfl|refine bZ rfl ?_|refine cc [.int .i64 1] rfl ?_|refine agt ?_ ?_)) ?_;refine a6 Z (a6 ⟨agk Z,agk Z⟩ (a7 Z ?_));repeat refine a6 (by repeat' (first|exact tv|exact rfl|refine bZ rfl ?_|refine cc [.int .i64 1] rfl ?_|refine agt ?_ ?_)) ?_
     refine r _ _ _ _ xS ⟨t.snoc ⟨_,oq,Z⟩,by simp only[ago,agm,agq]at b⊢;omega⟩ om a ⟨[0,1,2,3,5],Z,dc,by show 4<=5;omega,Z,Z,DA d Z,wZ d (kZ 7 _ Z),Z,Z,Z,Z,lj _ 7 [.str q,.int .i64 (agj 1),.int .i64 0,.str [],.str [],.ci,.ci],gH _ _ _,tv⟩
    ·have h:m.length+1<=4294967296:=by simp only[agm]at b;omega
     refine a6 (by repeat' (first|exact tv|exact rfl|refine bZ rfl ?_|refine cc [.int .i64 1] rfl ?_|refine agt ?_ ?_)) ?_;refine a6 Z (a6 ⟨Z,Z,by simp,agl _,rB h (agl _) (agk Z)⟩ (a7 Z (a7 (lk _) ?_)));repeat refine a6 (by repeat' (first|exact tv|exact rfl|refine bZ rfl ?_|refine cc [.int .i64 1] rfl ?_|refine agt ?_ ?_)) ?_
     refine r _ _ _ _ xS ⟨t.snoc ⟨_,oq,Z⟩,by simp only[ago,agm,agq]at b⊢;omega⟩ om a ⟨[0,1,2,3,5],Z,dc,by show 4<=5;omega,Z,Z,DX d Z,wZ d (kZ 7 _ Z),Z,Z,Z,Z,jQ _ 7 v m [.str q,.int .i64 (agj 1),.int .i64 0,.str [],.str [],.ci,.ci],gH _ _ _,tv⟩
   ·exact X0
  ·refine cd.loop ?_;refine bZ Z (cc [.str [61]] Z ?_);refine cI c e (c.tok e) [61] (b0 f) om 0 Z (fun z=>?_) (fun z=>?_)
   ·have xS:gG c l e=(jY 2 c (e+1)).map fun q=>l++[⟨q,2,cV⟩]:=by simp only[gG,xJ,o,s,z,agn,if_false,if_true]
    intro A;refine bZ Z (cc [.int .i64 2] Z ?_);repeat refine a6 (by repeat' (first|exact tv|exact rfl|refine bZ rfl ?_|refine cc [.int .i64 2] rfl ?_|refine agt ?_ ?_)) ?_
    refine nG (k:=2) u dc (u.step f z) 0 ?_ (fun q q2 e2=>?_) (fun i x q2 e2=>?_)
    ·exact Z
    ·obtain⟨B,a⟩:=jG u dc (u.step f z) e2;rw[e2]at xS;repeat refine a6 (by repeat' (first|exact tv|exact rfl|refine bZ rfl ?_|refine cc [.int .i64 2] rfl ?_|refine agt ?_ ?_)) ?_
     intro D;rcases j with _|⟨v,m⟩
     ·refine a6 (by repeat' (first|exact tv|exact rfl|refine bZ rfl ?_|refine cc [.int .i64 2] rfl ?_|refine agt ?_ ?_)) ?_;refine a6 Z (a6 ⟨agk Z,agk Z⟩ (a7 Z ?_));repeat refine a6 (by repeat' (first|exact tv|exact rfl|refine bZ rfl ?_|refine cc [.int .i64 2] rfl ?_|refine agt ?_ ?_)) ?_
      refine r _ _ _ _ xS ⟨t.snoc ⟨_,oq,Z⟩,by simp only[ago,agm,agq]at b⊢;omega⟩ om a ⟨[0,1,2,3,5],Z,dc,by show 4<=5;omega,Z,Z,DA d Z,wZ d (kZ 7 _ Z),Z,Z,Z,Z,lj _ 7 [.str q,.int .i64 (agj 2),.int .i64 0,.str [],.str [],.ci,.ci],gH _ _ _,tv⟩
     ·have h:m.length+1<=4294967296:=by simp only[agm]at b;omega
      refine a6 (by repeat' (first|exact tv|exact rfl|refine bZ rfl ?_|refine cc [.int .i64 2] rfl ?_|refine agt ?_ ?_)) ?_;refine a6 Z (a6 ⟨Z,Z,by simp,agl _,rB h (agl _) (agk Z)⟩ (a7 Z (a7 (lk _) ?_)));repeat refine a6 (by repeat' (first|exact tv|exact rfl|refine bZ rfl ?_|refine cc [.int .i64 2] rfl ?_|refine agt ?_ ?_)) ?_
      refine r _ _ _ _ xS ⟨t.snoc ⟨_,oq,Z⟩,by simp only[ago,agm,agq]at b⊢;omega⟩ om a ⟨[0,1,2,3,5],Z,dc,by show 4<=5;omega,Z,Z,DX d Z,wZ d (kZ 7 _ Z),Z,Z,Z,Z,jQ _ 7 v m [.str q,.int .i64 (agj 2),.int .i64 0,.str [],.str [],.ci,.ci],gH _ _ _,tv⟩
    ·exact X0
   ·refine cd.loop ?_;have xS:gG c l e=.bad (c.tok e).off 3:=by simp only[gG,xJ,o,s,z,agn,if_false]
    repeat refine ch ?_
    refine eF c e (c.tok e) (b0 f) 0 ?_ ?_
    ·exact Z
    repeat refine ch ?_
    refine fK _ (c.tok e).off 3 ?_;exact k2 _ _ _ _ xS (by show 4<=5;omega)
def acW:Nat->Bool:=fun a=>agv a 17
def T3{f:Rd}(Q:f.Wf){r:Nat->PR Ty}{lo:Nat}(G:ef r f lo)(k:Nat)(n:cq)(X K:Bool)(p:cq){D:V}{g:List V}(e:fu 0 (D::g)=true)(l:List mM)(i:List cH)(x:Nat)(S:tdI l i x)(U:lo<=x)(I:x<f.ts.length)(E:cO->VS->Prop) 
  (u:∀M J c m,ia r f l x=.ok M c->tdI M J c->x<c->c<f.ts.length->rr 4 (dp f c::m) (dp f c::tdT k n X K p D g J)->E (.ret (.dS [])) (dp f c::m))
  (O:∀h v c m,ia r f l x=.bad h v->4<=m.length+1->E (.eH (dt h v)) (dp f c::m)):b4 C ca pX (nC [2,3]) (dp f x::tdT k n X K p D g i) E:=by
 have R:=Q.len;obtain⟨w,a⟩:=S;refine b4.body acW (fun _=>Z) ?_;refine nG (k:=2) Q dc I 0 Z (fun F q1 j=>?_) (fun h v q1 j=>?_)
 ·obtain⟨T,b⟩:=jG Q dc I j;refine cI f q1 (f.tok q1) [60,58] (b0 b) om 0 Z (fun q=>?_) (fun q=>?_)
  ·have z:=Q.step b q;refine G.call (q1+1) om z 0 _ _ Z (fun aa ab q3 y A=>?_) (fun h v q3 y=>?_)
   ·obtain⟨H,P,tn,L,N,rfl⟩:=A.cZ;obtain⟨W,s⟩:=G.lt _ _ _ om z y;have d:ia r f l x=.ok (l++[⟨F,0,aa⟩]) q3:=by simp only[ia,j,q,if_true,y,PR.map]
    intro Y;rcases i with _|⟨B,t⟩
    ·refine cf ?_;refine a6 Z (a6 ⟨agk Z,agk Z⟩ (a7 Z ?_));repeat refine ch ?_
     refine u _ _ _ _ d ⟨w.snoc ⟨_,A,Z⟩,by simp only[ago,agm,agq]at a⊢;omega⟩ om s ⟨[0,1,2,3,6],Z,dc,by show 4<=5;omega,Z,Z,DA e Z,wZ e (kZ 7 _ Z),Z,Z,Z,Z,lj _ 7 [.str F,.int .i64 0,.int .i64 (agj H),.str P,.str tn,L,N],gH _ _ _,tv⟩
    ·have o:t.length+1<=4294967296:=by simp only[agm]at a;omega
     refine cf ?_;refine a6 Z (a6 ⟨Z,Z,by simp,agl _,rB o (agl _) (agk Z)⟩ (a7 Z (a7 (lk _) ?_)));repeat refine ch ?_
     refine u _ _ _ _ d ⟨w.snoc ⟨_,A,Z⟩,by simp only[ago,agm,agq]at a⊢;omega⟩ om s ⟨[0,1,2,3,6],Z,dc,by show 4<=5;omega,Z,Z,DX e Z,wZ e (kZ 7 _ Z),Z,Z,Z,Z,jQ _ 7 B t [.str F,.int .i64 0,.int .i64 (agj H),.str P,.str tn,L,N],gH _ _ _,tv⟩
   ·exact O _ _ _ _ (by simp only[ia,j,q,if_true,y,PR.map]) (by show 4<=6;omega)
  ·have d:ia r f l x=.ok (l++[⟨F,0,cV⟩]) q1:=by simp only[ia,j,q,agn,if_false]
   intro Y;rcases i with _|⟨B,t⟩
   ·refine cf ?_;refine a6 Z (a6 ⟨agk Z,agk Z⟩ (a7 Z ?_));repeat refine ch ?_
    refine u _ _ _ _ d ⟨w.snoc ⟨_,oq,Z⟩,by simp only[ago,agm,agq]at a⊢;omega⟩ om b ⟨[0,1,2,3,6],Z,dc,by show 4<=5;omega,Z,Z,DA e Z,wZ e (kZ 7 _ Z),Z,Z,Z,Z,lj _ 7 [.str F,.int .i64 0,.int .i64 0,.str [],.str [],.ci,.ci],gH _ _ _,tv⟩
   ·have o:t.length+1<=4294967296:=by simp only[agm]at a;omega
    refine cf ?_;refine a6 Z (a6 ⟨Z,Z,by simp,agl _,rB o (agl _) (agk Z)⟩ (a7 Z (a7 (lk _) ?_)));repeat refine ch ?_
    refine u _ _ _ _ d ⟨w.snoc ⟨_,oq,Z⟩,by simp only[ago,agm,agq]at a⊢;omega⟩ om b ⟨[0,1,2,3,6],Z,dc,by show 4<=5;omega,Z,Z,DX e Z,wZ e (kZ 7 _ Z),Z,Z,Z,Z,jQ _ 7 B t [.str F,.int .i64 0,.int .i64 0,.str [],.str [],.ci,.ci],gH _ _ _,tv⟩
 ·exact O _ _ _ _ (by simp only[ia,j]) (by show 4<=5;omega)
end Go.Proofs.YtpejealjkmhkgaaGreatDoor
namespace Go.VM
open Go.AM
section
variable{Φ:Fz} {ρ:Nat->Nat} {σ:VS} {st:St}
def Real.forget(h:Real Φ ρ σ st)(l:Nat):Real Φ ρ (σ.set l .gone) st:=by
 have BM:∀(j:Nat) (d:cN),(σ.set l .gone:VS)[j]?=some d->live d=true->σ[j]?=some d:=by
  intro j d hj g;rw[List.getElem?_set]at hj;split at hj
  ·split at hj
   ·cases hj;cases g
   ·cases hj
  ·exact hj
 refine⟨h.wf,h.wm,h.fz,h.PJ,h.ss,h.PK,fun j es els c e f p hj hg=>h.K2 j es els c e f p (BM j _ hj Z) hg,fun j d hj g=>?_,fun j k d ok hj hk i Ld e=>h.inj j k d ok (BM j _ hj i) (BM k _ hk Ld) i Ld e,fun j es els c e f p ms x hj hg hm hx hn=>?_,h.zr⟩
 ·rw[agw];exact h.obj j d (BM j d hj g) g
 ·exact aan
def cU.forget(d:Nat){m:Nat}{b:cO}{f:cO->VS->Prop}(g:cU m b (σ.set d .gone) f):cU m b σ f:=by
 refine⟨fun Φ ρ st c e=>?_⟩;have a:CW Φ (σ.set d cN.gone).length b:=by rw[agw];exact e
 exact g.go Φ ρ st (c.forget d) a
end
end Go.VM
namespace Go.Proofs.YtpejealjkmhkgaaGreatDoor
open Go.AM Go.VM
def q0:cH:=[.int .i64 0,.str [],.str [],.ci,.ci]
def Ke:cH:=[.int .i64 0,.str [],.str [],.str [],.int .i64 0,.ci,.ci,.ci]
def Kf:eZ cV q0:=.mk .nil .nil
def ZU:je oe Ke:=.mk .nil .nil .nil
def dcV(k:Nat)(n:cq)(h e:Bool)(a:cq)(c:D)(lo g f b:cH)(m d:cq):List V:=(mR k n h e a c lo g f b m d).map V.d
abbrev dc0(c b:Bool)(a:cq):List V:=dcV 0 [] c b a .ci q0 q0 q0 Ke [] []
def dcK(g:Rd)(i:PR jX)(e:cO)(b d:cN):Prop:=match i with
 |.ok h c=>e=.ret (.dS [])/\b=dp g c/\∃f,rs h f/\d=.box (f.map V.d)
 |.bad a j=>e=.eH (dt a j)/\∃c,b=dp g c
def DcS(f:Rd)(e:PR jX)(d:cO)(c:VS):Prop:=∃b a,c=[b,a]/\cM d=true/\fW 0 b=true/\fW 0 a=true/\dcK f e d b a
def Kg{g:Rd}{f:Nat}{e:PR jX}{d:jX}{c:cH}{b:VS}(h:e=.ok d f)(a:rs d c):cU 2 (.ret (.dS [])) (dp g f:: .box (c.map V.d)::b) (DcS g e):=by
 subst h;exact cU.drop 2 Z (zc Z (qW 2 c)) Z (cU.now Z ⟨_,_,Z,Z,Z,qW 0 c,Z,Z,c,a,Z⟩)
def ku{h:Rd}{g b i:Nat}{f:PR jX}{a:VS}(j:f=.bad b i)(d:1<=a.length):cU 2 (.eH (dt b i)) (dp h g::a) (DcS h f):=by
 subst j;obtain⟨c,a,rfl⟩:∃c e,a=c::e:=by cases a with
  |nil=>simp at d
  |cons c e=>exact⟨c,e,rfl⟩
 refine cU.forget 1 ?_;exact cU.drop 2 Z (zc Z Z) Z (cU.now Z ⟨_,_,Z,Z,Z,Z,Z,g,Z⟩)
def ad7:Nat->Bool:=fun a=>agv a 13||agv a 21
def vg{m:Rd}(i:m.Wf)(s e:Bool)(a:cq){p:Nat}(n:p<m.ts.length):b4 C ca Am [.bp 0 0,.bp 1 0] [dp m p,.box (dc0 s e a)] (DcS m (kQ m s e a p)):=by
 have v:=i.len;refine cv ad7 (fun _=>Z) ?_;refine pu i n 0 Z (fun z y b=>?_) (fun h l y b=>?_)
 ·obtain⟨_,u⟩:=fS i n b;intro t;refine gZ i [58,58] u t _ 0 ?_ (fun c g=>?_) (fun c x=>?_)
  ·exact Z
  ·refine(ve i).call (y+1) g 0 ?_ (fun o q2 d=>?_) (fun h l q2 d=>?_)
   ·exact Z
   ·obtain⟨_,q⟩:=(ve i).lt _ _ _ g d;intro w;refine gZ i [97,115] q w _ 0 ?_ (fun f r=>?_) (fun f x=>?_)
    ·exact Z
    ·refine(ve i).call (q2+1) r 0 ?_ (fun k q4 j=>?_) (fun h l q4 j=>?_)
     ·exact Z
     ·exact Kg (c:=mR 2 k s e a .ci q0 q0 q0 Ke z o) (d:=⟨2,k,s,e,a,[],cV,cV,cV,oe,z,o⟩) (by simp only[kQ,b,dI,cu,c,if_true,d,f,j,PR.map]) ⟨_,_,_,_,_,.nil,Kf,Kf,Kf,ZU,Z⟩
     ·exact ku (by simp only[kQ,b,dI,cu,c,if_true,d,f,j,PR.map]) sm
    ·exact ku (by simp only[kQ,b,dI,cu,c,if_true,d,f,if_false,agn,PR.map]) sm
   ·exact ku (by simp only[kQ,b,dI,cu,c,if_true,d]) sm
  ·exact ku (by simp only[kQ,b,dI,cu,c,if_false,agn]) sm
 ·exact ku (by simp only[kQ,b]) sm
def T4:List V:=[cn [],cn [],.d .ci,.d .ci]++((q0++(q0++(Ke++[D.str [],D.str []]))).map V.d)
def Vj:Tm:=[(2,.bp 2 0),(3,.bp 3 0)]
def Kh(g:Rd)(k:Nat)(n:cq)(h d:Bool)(a:cq)(lo f e b:cH)(m c:cq)(x:Nat×List mM×D):VS:=[dp g x.1,.box (dcV k n h d a x.2.2 lo f e b m c),.box [.bp 0 0],.box [.bp 1 0]]
def ad8:Nat->Bool:=fun a=>agv a 18||agv a 26||agv a 1000004
def T5{d:Type}{g:Rd}(r:g.Wf){step:d->Nat->PR d}{lo:Nat}(n:∀f b a c,lo<=b->b<g.ts.length->step f b=.ok a c->b<c/\c<g.ts.length):∀(i:Nat) (f:d) (b:Nat) (a:d) (c:Nat),lo<=b->b<g.ts.length->qY step g i f b=.ok a c->b<c/\c<g.ts.length:=by
 intro i;induction i with
 |zero=>intro f b a c _ _ e;cases e
 |succ i o=>
  intro f b a c l j e;rw[qY]at e;split at e
  ·cases e
  ·rename_i q q1 k;obtain⟨u,p⟩:=n f b q q1 l j k;split at e
   ·rename_i m;have:=r.step p m;obtain⟨x,s⟩:=o q _ a c om this e;exact⟨om,s⟩
   ·obtain⟨t,h,_⟩:=dv e;have e1:=cL _ _ _ h;have e2:=da r _ _ _ p h;exact XP
theorem vh{c:Rd}(J:c.Wf){g:Nat->PR Ty}{u:Nat->PR Ex}{p:Nat}(G:ef g c p)(X:mA cR u c p)(f b:Bool)(a:cq)(U:p<c.ts.length):b4 C ca Al [.bp 0 0,.bp 1 0] [dp c p,.box (dc0 f b a)] (DcS c (mB g u c f b a p)):=by
 have ae:=J.len;refine cv ad8 (fun _=>Z) ?_;repeat refine ch ?_
 refine pu J U 0 ?_ (fun o l j=>?_) (fun k F l j=>?_)
 ·exact Z
 ·obtain⟨aC,L⟩:=fS J U j;repeat refine ch ?_
  apply dH (T:=fun _=>Vj) (S:=Kh c 1 o f b a q0 q0 q0 Ke [] []) (I:=fun x:Nat×List mM×D=>l<=x.1/\x.1<c.ts.length/\tG x.2.1 x.2.2/\jZ (ia g c) c [] l=.ok x.2.1 x.1)
  ·intro K;refine qV c l (c.tok l) [91] (b0 L) 0 ?_ ?_
   ·exact Z
   apply aZ<;>intro N
   ·refine FQ J (ia g c) tdI (tdT 1 o f b a (b5 0) T4) [.box (dcV 1 o f b a .ci q0 q0 q0 Ke [] []),.box [.bp 0 0],.box [.bp 1 0]] 4 pX Z [2,3] (g0:=[]) (a0:=[]) L N ⟨.nil,agr _⟩ (fun az ac l aA=>⟨aA.1,agK aA.2⟩) Z Z (fun ac=>by show 4<=5;omega) dc (fun az ac q2 e aH af al ar ag=>T3 J G 1 o f b a Z az ac q2 e om af al ar ag) (fun ab Y q2 t V ay h=>?_) (fun k F q2 aL t aJ=>?_)
    ·have v:l<=q2:=om;rcases Y with _|⟨P,r⟩
     ·have M:ab=[]:=agy V.1.len.symm;subst M;exact cw (dB:=Vj) (fU:=Kh c 1 o f b a q0 q0 q0 Ke [] [] (q2,[],.ci)) (.eP 2 [0,1,2,3]) (K (q2,[],.ci) ⟨v,h,.nil,t⟩)
     ·refine rk 4 1 Vj (es:=7) (l:=P::r) Z Z (gk _) ⟨Z,Z,tv⟩ ⟨tv,tv,tv⟩ (by repeat' (first|exact tv|exact fun _=>⟨rfl,by simp⟩|refine agt ?_ ?_)) (fun aE=>?_);exact cw (dB:=Vj) (fU:=Kh c 1 o f b a q0 q0 q0 Ke [] [] (q2,ab,.ps aE (0*7) 7 (r.length+1) (agE (r.length+1) (agC 0 (P::r))))) (.eP 2 [0,1,2,3]) (K (q2,ab,_) ⟨v,h,by rw[eT _ _ sm];exact .ps V.1,t⟩)
    ·exact ku (by simp only[mB,j,t]) om
   ·refine cw (dB:=Vj) (fU:=Kh c 1 o f b a q0 q0 q0 Ke [] [] (l,[],.ci)) .eS (K (l,[],.ci) ⟨agl _,L,.nil,by rw[jZ,if_neg (by rw[N];decide)]⟩)
  ·rintro⟨q1,q,w⟩ ⟨W,T,aa,R⟩;have aB:l<=q1:=W;have h:q1<c.ts.length:=T;have Q:tG q w:=aa;have v:jZ (ia g c) c [] l=.ok q q1:=R;clear W T aa R;have d:mB g u c f b a p=match dI g c [58] q1 with
     |.bad aD f=>.bad aD f
     |.ok aw q2=>(dI u c [61] q2).map fun x=>⟨1,o,f,b,a,q,cV,cV,aw,x,[],[]⟩:=by
    simp only[mB,j,v];try rfl
   intro aj;refine gZ J [58] h aj _ 0 Z (fun e A=>?_) (fun e ai=>?_)
   ·repeat refine ch ?_
    refine G.call (q1+1) om A 0 _ _ ?_ (fun aw aI q3 i B=>?_) (fun k F q3 i=>?_)
    ·exact Z
    ·obtain⟨ad,ah,tn,ak,ap,rfl⟩:=B.cZ;obtain⟨ax,H⟩:=G.lt _ _ _ om A i;repeat refine ch ?_
     intro av;refine gZ J [61] H av _ 0 ?_ (fun s O=>?_) (fun s ai=>?_)
     ·exact Z
     ·repeat refine ch ?_
      refine X.call (q3+1) om O 0 _ _ ?_ (fun x aG an I E=>?_) (fun k F an I=>?_)
      ·exact Z
      ·obtain⟨am,m,n,ao,num,S,aq,au,rfl⟩:=E.eight;repeat refine ch ?_
       exact Kg (c:=mR 1 o f b a w q0 q0 [.int .i64 (agj ad),.str ah,.str tn,ak,ap] [.int .i64 (agj am),.str m,.str n,.str ao,.int .i64 num,S,aq,au] [] []) (d:=⟨1,o,f,b,a,q,cV,cV,aw,x,[],[]⟩) (by rw[d];simp only[dI,cu,e,if_true,i,s,I,PR.map]) ⟨_,_,_,_,_,Q,Kf,Kf,B,E,Z⟩
      ·exact ku (by rw[d];simp only[dI,cu,e,if_true,i,s,I,PR.map]) sm
     ·exact ku (by rw[d];simp only[dI,cu,e,if_true,i,s,if_false,agn,PR.map]) sm
    ·exact ku (by rw[d];simp only[dI,cu,e,if_true,i]) sm
   ·exact ku (by rw[d];simp only[dI,cu,e,if_false,agn]) sm
 ·exact ku (by simp only[mB,j]) sm
def ad9:Nat->Bool:=fun a=>agv a 1000005||agv a 1000010
def Vk:Tm:=[(1,.d .ci),(2,.d .ci),(3,.bp 0 0),(6,.bp 1 0)]
def oV(b es:Nat):Option (List cH)->V
 |none=>.d .ci
 |some a=>.ms b es 0 a.length a.length
def oO(es:Nat):Option (List cH)->cN
 |none=>.gone
 |some b=>.row es (b.map fun a=>a.map V.d)
def RA(k:Nat)(m a:cq)(x:Option (List cH)×Option (List cH)):VS:=[.box [b5 k,cn m,cn a,oV 2 5 x.1,oV 3 7 x.2],.box tX,oO 5 x.1,oO 7 x.2]
def Oz(a:List Ty):Option (List cH)->Prop
 |none=>a=[]
 |some b=>dz a b/\b≠[]
def T6(a:List oG):Option (List cH)->Prop
 |none=>a=[]
 |some b=>u5 a b
def aba(a:cH)(b:List cH){c:Nat}(f:b.length+1<=4294967296)(d:c<=200):(0+(agJ (fun e=>agJ V.d e) (a::b)).length)*c<=fy/\0+(agJ (fun e=>agJ V.d e) (a::b)).length<=fy:=by
 simp only[agB,agI,agm];unfold fy;constructor
 ·calc (b.length+1)*c<=4294967296*200:=Nat.mul_le_mul om d
   _<=_:=dc
 ·omega
def dz.set{l:List Ty}{a:List cH}(h:dz l a){i:Nat}(hi:i<l.length){b:cH}(hd:eZ l[i] b):dz l (a.set i b):=by
 induction l generalizing a i with
 |nil=>simp at hi
 |cons c l ih=>
  exact aai
def u5.set{l:List oG}{a:List cH}(h:u5 l a){i:Nat}(hi:i<l.length){b:cH}(hd:eZ l[i].2.1 b):u5 l (a.set i (.str l[i].1::b++[.bool l[i].2.2])):=by
 induction l generalizing a i with
 |nil=>simp at hi
 |cons c l ih=>
  obtain⟨n,d,e⟩:=c;exact aai
def xP{a:Nat->Nat}{k:Nat}{m d:cq}{e c h b:V}(g:e=gW a h)(f:c=gW a b):some (cN.box [b5 k,cn m,cn d,e,c])=some (hV a (.box [b5 k,cn m,cn d,h,b])):=by
 subst g f;rfl
def qd{a:Nat->Nat}{c d es n:Nat}{l:List cH}(e:a c=d)(b:n=l.length):V.ms d es 0 n n=gW a (oV c es (some l)):=by
 subst e b;rfl
def WN{a:Nat->Nat}{b es:Nat}(o:Option (List cH))(c:a b=b):oV b es o=gW a (oV b es o):=by
 cases o with
 |none=>rfl
 |some d=>show V.ms _ _ _ _ _=V.ms _ _ _ _ _;rw[c]
def OA{a:Nat->Nat}{es:Nat}(o:Option (List cH)):some (oO es o)=some (hV a (oO es o)):=by
 cases o with
 |none=>rfl
 |some b=>exact congrArg some (sM a es b).symm
def OB{a:Nat->Nat}{es:Nat}(l:List cH)(c:Nat)(b:cH):some (cN.row es ((l.map fun b=>b.map V.d).set (0+c) (b.map V.d)))=some (hV a (oO es (some (l.set c b)))):=by
 show _=some (hV a (.row es _));rw[sM,agB,List.map_set]
theorem T7{m k:Nat}{x e:cq}{a b:V}(d:bd m a=true)(c:bd m b=true):fW m (.box [b5 k,cn x,cn e,a,b])=true:=by
 show(true&&(true&&(true&&(bd m a&&(bd m b&&true)))))=true;rw[d,c];rfl
def OC{m a es:Nat}(o:Option (List cH))(b:Nat.blt a m=true):bd m (oV a es o)=true:=by
 cases o with
 |none=>rfl
 |some c=>exact b
theorem vj{a:Nat->Nat}{es:Nat}(l:List cH):some (cN.row es (agE 0 (agC 0 [])++agJ (fun b=>agJ V.d b) l))=some (hV a (oO es (some l))):=by
 show _=some (hV a (.row es _));rw[sM];rfl
def q6(m es:Nat)(o:Option (List cH)):fW m (oO es o)=true:=by
 cases o with
 |none=>rfl
 |some a=>exact jv m es a
theorem Ki(n:Nat)(ai:∀(t:Ty) (L:cH),ct t<=n->eZ t L->ft t->∀{σ:VS} {aI:cO->VS->Prop},(∀z,eZ t z->aI (.ret (.agg (z.map V.d))) σ)->b4 C ca kN [.agg (L.map V.d),.d .ci,.d .ci] σ aI) 
  (t:Ty) (L:cH) (aK:ct t<=n+1) (aP:n<4294967295) (aC:eZ t L) (Y:ft t):b4 C ca kN [.agg (L.map V.d),.d .ci,.d .ci] [] fun ao X=>X=[]/\cM ao=true/\∃z,eZ t z/\ao=.ret (.agg (z.map V.d)):=by
 cases aC with
 |mk aq aj=>
 rename_i k m g b a aE aF;have aJ:decide (agj k=9)=false:=by
  refine decide_eq_false fun E=>?_;have E:k=9:=by simp only[agp]at E;omega
  subst E;cases Y with
  |mk Y _=>
   cases Y with
   |base E=>omega
 have ac:=eO (.mk k m g b a);have aD:=dA (dD (.mk k m g b a));have aH:(dD (.mk k m g b a)).length=b.length+a.length:=by simp[dD,ea]
 have ax:(aE=.ci/\b=[])∨∃K ay az j i,aE=.ps K ay 5 az (j::i)/\dz b (j::i)/\i.length+1=b.length:=by
  cases aq with
  |nil=>exact .inl ⟨rfl,rfl⟩
  |ps E p=>
   rename_i e;have:=E.len;cases e with
   |nil=>exact absurd rfl p
   |cons j i=>exact .inr ⟨_,_,_,j,i,rfl,E,this⟩
 have ab:(aF=.ci/\a=[])∨∃K ay az e,aF=.ps K ay 7 az e/\u5 a e/\e.length=a.length:=by
  cases aj with
  |nil=>exact .inl ⟨rfl,rfl⟩
  |ps E=>exact .inr ⟨_,_,_,_,rfl,E,E.len⟩
 clear aq aj;refine cv ad9 (fun _=>Z) ?_;refine cj ?_;refine cd.loop ?_;repeat refine de ?_
 apply dH (T:=fun _=>Vk) (S:=RA k m g) (I:=fun x:Option (List cH)×Option (List cH)=>Oz b x.1/\T6 a x.2)
 ·intro P;repeat refine ch ?_
  rcases ax with⟨rfl,f⟩|⟨K,ay,az,j,i,rfl,f,aG⟩
  ·refine cj ?_;repeat refine ch ?_
   rcases ab with⟨rfl,h⟩|⟨aa,aB,aA,e,rfl,h,Q⟩
   ·refine cj ?_;repeat refine ch ?_
    exact cd.gone (cd.gone (cw (dB:=Vk) (fU:=RA k m g (none,none)) .eS (P _ ⟨f,h⟩)))
   ·rcases e with _|⟨f0,F⟩
    ·refine cj ?_;refine a6 Z (a6 ⟨Z,Z,agl _,agl _,⟨agr _,agr _⟩⟩ ?_);repeat refine ch ?_
     exact cd.gone (cw (dB:=Vk) (fU:=RA k m g (none,(some []))) (.pick 0 [0,1,3,2] ⟨Z,Z,Z,Z,tv⟩ Z Z Z Z Z dc ⟨xP Z (qd Z Z),Z,Z,Z,Z,q6 _ _ _,Z,q6 _ _ _,tv⟩) (P (none,(some [])) ⟨f,h⟩))
    ·simp only[agm]at Q;refine cj ?_;refine a6 Z (a6 ⟨Z,Z,agl _,agl _,aba f0 F om (agk Z)⟩ ?_);refine a7 Z (a7 Z ?_);repeat refine ch ?_
     exact cd.gone (cw (dB:=Vk) (fU:=RA k m g (none,(some (f0::F)))) (.pick 0 [0,1,4,3] ⟨Z,Z,Z,Z,tv⟩ Z Z Z Z Z dc ⟨xP Z (qd Z sm),Z,Z,Z,Z,q6 _ _ _,(vj (f0::F)),q6 _ _ _,tv⟩) (P (none,(some (f0::F))) ⟨f,h⟩))
  ·refine cj ?_;refine a6 Z (a6 ⟨Z,Z,agl _,agl _,aba j i om (agk Z)⟩ ?_);refine a7 Z (a7 Z ?_);repeat refine ch ?_
   rcases ab with⟨rfl,h⟩|⟨aa,aB,aA,e,rfl,h,Q⟩
   ·refine cj ?_;repeat refine ch ?_
    exact cd.gone (cw (dB:=Vk) (fU:=RA k m g ((some (j::i)),none)) (.pick 0 [0,1,3,4] ⟨Z,Z,Z,Z,tv⟩ Z Z Z Z Z dc ⟨xP (qd Z sm) Z,Z,Z,Z,(vj (j::i)),q6 _ _ _,Z,q6 _ _ _,tv⟩) (P ((some (j::i)),none) ⟨⟨f,by simp⟩,h⟩))
   ·rcases e with _|⟨f0,F⟩
    ·refine cj ?_;refine a6 Z (a6 ⟨Z,Z,agl _,agl _,⟨agr _,agr _⟩⟩ ?_);repeat refine ch ?_
     exact id (cw (dB:=Vk) (fU:=RA k m g ((some (j::i)),(some []))) (.pick 0 [0,1,3,4] ⟨Z,Z,Z,Z,tv⟩ Z Z Z Z Z dc ⟨xP (qd Z sm) (qd Z Z),Z,Z,Z,(vj (j::i)),q6 _ _ _,Z,q6 _ _ _,tv⟩) (P ((some (j::i)),(some [])) ⟨⟨f,by simp⟩,h⟩))
    ·simp only[agm]at Q;refine cj ?_;refine a6 Z (a6 ⟨Z,Z,agl _,agl _,aba f0 F om (agk Z)⟩ ?_);refine a7 Z (a7 Z ?_);repeat refine ch ?_
     exact id (cw (dB:=Vk) (fU:=RA k m g ((some (j::i)),(some (f0::F)))) (.pick 0 [0,1,3,5] ⟨Z,Z,Z,Z,tv⟩ Z Z Z Z Z dc ⟨xP (qd Z sm) (qd Z sm),Z,Z,Z,(vj (j::i)),q6 _ _ _,(vj (f0::F)),q6 _ _ _,tv⟩) (P ((some (j::i)),(some (f0::F))) ⟨⟨f,by simp⟩,h⟩))
 ·rintro⟨D,r⟩ ⟨f,h⟩;have f:Oz b D:=f;have h:T6 a r:=h;have ae:∀aL∈dD (.mk k m g b a),ft aL:=by cases Y with|mk _ E=>exact E
  have M:dD (.mk k m g b a)=b++ea a:=rfl;apply dH (T:=fun _=>Vk) (S:=RA k m g) (I:=fun x:Option (List cH)×Option (List cH)=>Oz b x.1/\T6 a x.2)
  ·intro ad;rcases D with _|c
   ·refine cd.loop ?_;exact cw (dB:=Vk) (fU:=RA k m g (none,r)) .eS (ad (none,r) ⟨f,h⟩)
   ·obtain⟨f,p⟩:=f;refine cD (dB:=[(1,.d .ci),(2,.d .ci),(3,.bp 0 0),(6,.bp 1 0),(43,.ms 2 5 0 c.length c.length),(44,b5 c.length),(45,b5 0)]) ?_;refine cd.iter (fun x:Nat×List cH=>[(1,.d .ci),(2,.d .ci),(3,.bp 0 0),(6,.bp 1 0),(43,.ms 2 5 0 x.2.length x.2.length),(44,b5 x.2.length),(45,b5 x.1)]) (fun x=>RA k m g (some x.2,r)) (fun x=>b.length-x.1) (fun x=>x.1<=b.length/\dz b x.2/\x.2≠[]) ?_ (0,c) ⟨agr _,f,p⟩;rintro⟨l,e⟩ ⟨W,f,p⟩;have W:l<=b.length:=W;have f:dz b e:=f;have p:e≠[]:=p;have T:=f.len;apply aZ<;>intro E
    ·have G:l<b.length:=T▸ee E;obtain⟨L,ag,N⟩:=f.get G;have u:b[l]∈b:=agu G;have R:ct b[l]<=n:=by have:=dJ u;rw[M,ga]at ac;omega
     have S:ft b[l]:=ae _ (by rw[M];exact List.mem_append_left _ u);obtain⟨av,ap,an,am,f1,rfl⟩:=N.cZ;have J:nth (e.map fun L=>L.map V.d) (0+l)=some (qk av ap an am f1):=by rw[agB,ck,agL,ag];rfl
     have I:l<e.length:=om;refine bZ Z ?_;refine a6 I ?_;refine cc _ J ?_;repeat refine ch ?_
     refine ai b[l] [.int .i64 (agj av),.str ap,.str an,am,f1] R N S (fun z H=>?_);obtain⟨w,B,y,A,f2,rfl⟩:=H.cZ;repeat refine ch ?_
     refine bZ Z ?_;refine a6 I ?_;repeat refine cf ?_
     refine cc _ J ?_;have af:nth ((e.map fun L=>L.map V.d).set (0+l) (qk w B y A f2)) (0+l)=some (qk w B y A f2):=by rw[ck,agY (by simp;omega)]
     repeat refine cf ?_
     refine⟨(l+1,e.set l [.int .i64 (agj w),.str B,.str y,A,f2]),⟨G,f.set G H,by simp[p]⟩,iK,.pick 0 [0,1,2,3] ⟨Z,Z,Z,Z,congrArg some (qd (l:=e.set l _) Z agw.symm),int_eq (by rw[agw]),int_eq (cp om),tv⟩ Z Z Z Z Z dc ⟨xP (qd Z agw.symm) (WN r Z),T7 (OC _ Z) (OC _ Z),Z,Z,OB e l [.int .i64 (agj w),.str B,.str y,A,f2],q6 _ _ _,OA r,q6 _ _ _,tv⟩,Z,Z⟩
    ·exact cw (dB:=Vk) (fU:=RA k m g (some e,r)) .eS (ad (some e,r) ⟨⟨f,p⟩,h⟩)
  ·rintro⟨D,r⟩ ⟨f,h⟩;have f:Oz b D:=f;have h:T6 a r:=h;have U:∀v,T6 a v->cU 0 (.ret (.agg [b5 k,cn m,cn g,oV 2 5 D,oV 3 7 v])) [.box [b5 k,cn m,cn g,oV 2 5 D,oV 3 7 v],.box [b5 k,cn m,cn g,oV 2 5 D,oV 3 7 v],oO 5 D,oO 7 v] fun ao X=>X=[]/\cM ao=true/\∃z,eZ (.mk k m g b a) z/\ao=.ret (.agg (z.map V.d)):=by
    intro v q;rcases D with _|c<;>rcases v with _|d
    ·have f:b=[]:=f;have q:a=[]:=q;subst f q;exact a8 0 ⟨Z,Z,[.int .i64 (agj k),.str m,.str g,.ci,.ci],.mk .nil .nil,Z⟩
    ·have f:b=[]:=f;subst f;refine cU.freeze 3 (es:=7) (l:=d) Z (gk d) (by repeat' (first|exact tv|exact fun _=>⟨rfl,by simp⟩|refine agt ?_ ?_)) (fun K=>?_);rw[show wq 3 K d (.ret (.agg [b5 k,cn m,cn g,oV 2 5 none,oV 3 7 (some d)]))=.ret (.agg (([.int .i64 (agj k),.str m,.str g,.ci,.ps K (0*7) 7 d.length ((d.drop 0).take d.length)]:cH).map V.d))from rfl,eT _ _ rfl];exact a8 0 ⟨Z,Z,_,.mk .nil (.ps q),Z⟩
    ·have q:a=[]:=q;subst q;refine cU.freeze 2 (es:=5) (l:=c) Z (gk c) (by repeat' (first|exact tv|exact fun _=>⟨rfl,by simp⟩|refine agt ?_ ?_)) (fun K=>?_);rw[show wq 2 K c (.ret (.agg [b5 k,cn m,cn g,oV 2 5 (some c),oV 3 7 none]))=.ret (.agg (([.int .i64 (agj k),.str m,.str g,.ps K (0*5) 5 c.length ((c.drop 0).take c.length),.ci]:cH).map V.d))from rfl,eT _ _ rfl];exact a8 0 ⟨Z,Z,_,.mk (.ps f.1 f.2) .nil,Z⟩
    ·refine cU.freeze 2 (es:=5) (l:=c) Z (gk c) (by repeat' (first|exact tv|exact fun _=>⟨rfl,by simp⟩|exact fun E=>absurd (show(3:Nat)=2 from E) dc|exact fun E=>absurd (show(2:Nat)=3 from E) dc|refine agt ?_ ?_)) (fun K=>?_);rw[show wq 2 K c (.ret (.agg [b5 k,cn m,cn g,oV 2 5 (some c),oV 3 7 (some d)]))=.ret (.agg [b5 k,cn m,cn g,.d (.ps K (0*5) 5 c.length ((c.drop 0).take c.length)),.ms 3 7 0 d.length d.length])from rfl,eT _ _ rfl];refine cU.freeze 3 (es:=7) (l:=d) Z (gk d) (by repeat' (first|exact tv|exact fun _=>⟨rfl,by simp⟩|refine agt ?_ ?_)) (fun aa=>?_);rw[show wq 3 aa d (.ret (.agg [b5 k,cn m,cn g,.d (.ps K (0*5) 5 c.length c),.ms 3 7 0 d.length d.length]))=.ret (.agg (([.int .i64 (agj k),.str m,.str g,.ps K (0*5) 5 c.length c,.ps aa (0*7) 7 d.length ((d.drop 0).take d.length)]:cH).map V.d))from rfl,eT _ _ rfl];exact a8 0 ⟨Z,Z,_,.mk (.ps f.1 f.2) (.ps q),Z⟩
   rcases D with _|c;all_goals
    rcases r with _|d
    ·refine cd.loop ?_;exact U none h
    ·refine cD (dB:=[(1,.d .ci),(2,.d .ci),(3,.bp 0 0),(6,.bp 1 0),(60,.ms 3 7 0 d.length d.length),(61,b5 d.length),(62,b5 0)]) ?_;refine cd.iter (fun x:Nat×List cH=>[(1,.d .ci),(2,.d .ci),(3,.bp 0 0),(6,.bp 1 0),(60,.ms 3 7 0 x.2.length x.2.length),(61,b5 x.2.length),(62,b5 x.1)]) (fun x=>RA k m g (_,some x.2)) (fun x=>a.length-x.1) (fun x=>x.1<=a.length/\u5 a x.2) ?_ (0,d) ⟨agr _,h⟩;rintro⟨l,e⟩ ⟨W,O⟩;have W:l<=a.length:=W;have O:u5 a e:=O;have T:=O.len;apply aZ<;>intro E
     ·have G:l<a.length:=T▸ee E;obtain⟨x,ag,ak,al,N⟩:=O.get G;have u:a[l].2.1∈ea a:=List.mem_map.2 ⟨_,agu G,rfl⟩;have R:ct a[l].2.1<=n:=by have:=dJ u;rw[M,ga]at ac;omega
      have S:ft a[l].2.1:=ae _ (by rw[M];exact List.mem_append_right _ u);have J:nth (e.map fun L=>L.map V.d) (0+l)=some [cn x.n,b5 x.k,cn x.m,cn x.nm,.d x.a,.d x.f,b6 x.o]:=by rw[agB,ck,agL,ag];rfl
      have I:l<e.length:=om;refine bZ Z ?_;refine a6 I ?_;refine cc _ J ?_;repeat refine ch ?_
      refine ai a[l].2.1 x.ty R N S (fun z H=>?_);obtain⟨w,B,y,A,f2,rfl⟩:=H.cZ;repeat refine cf ?_
      refine bZ Z ?_;refine a6 I ?_;repeat refine cf ?_
      refine cc _ J ?_;have af:nth ((e.map fun L=>L.map V.d).set (0+l) [cn x.n,b5 w,cn B,cn y,.d A,.d f2,b6 x.o]) (0+l)=some [cn x.n,b5 w,cn B,cn y,.d A,.d f2,b6 x.o]:=by rw[ck,agY (by simp;omega)]
      repeat refine cf ?_
      have aw:u5 a (e.set l [.str x.n,.int .i64 (agj w),.str B,.str y,A,f2,.bool x.o]):=by
       have:=O.set G H;rw[ak,al]at this;exact this
      refine⟨(l+1,e.set l [.str x.n,.int .i64 (agj w),.str B,.str y,A,f2,.bool x.o]),⟨G,aw⟩,iK,.pick 0 [0,1,2,3] ⟨Z,Z,Z,Z,congrArg some (qd (l:=e.set l _) Z agw.symm),int_eq (by rw[agw]),int_eq (cp om),tv⟩ Z Z Z Z Z dc ⟨xP Z (qd Z agw.symm),T7 (OC _ Z) (OC _ Z),Z,Z,OA _,q6 _ _ _,OB e l [.str x.n,.int .i64 (agj w),.str B,.str y,A,f2,.bool x.o],q6 _ _ _,tv⟩,Z,Z⟩
     ·exact U (some e) O
def FR:∀(n:Nat),n<4294967296->∀(b:Ty) (d:cH),ct b<=n->eZ b d->ft b->∀{σ:VS} {h:cO->VS->Prop},(∀a,eZ b a->h (.ret (.agg (a.map V.d))) σ)->b4 C ca kN [.agg (d.map V.d),.d .ci,.d .ci] σ h:=by
 intro n;induction n with
 |zero=>intro _ b d f;have:=gO b;omega
 |succ n i=>
  intro r b d j c e σ h g;have l:=Ki n (fun b d f c e=>i om b d f c e) b d j om c e;obtain⟨k,m,p,t,s,rfl⟩:=c.cZ;exact b4.closed (P:=fun o=>∃a,eZ b a/\o=.ret (.agg (a.map V.d))) l Z (fun o ⟨a,f,q⟩=>by rw[q];exact g a f)
def eQ(k:Nat)(m n:cq)(a f:D):cH:=[.int .i64 (agj k),.str m,.str n,a,f]
abbrev Kj:=Nat×Bool×Ty×Nat×cq×cq×D×D
def Kj.c(x:Kj):cH:=eQ x.2.2.2.1 x.2.2.2.2.1 x.2.2.2.2.2.1 x.2.2.2.2.2.2.1 x.2.2.2.2.2.2.2
def aea:Nat->Bool:=fun a=>agv a 40||agv a 1000004||agv a 1000008||agv a 1000011
def abb(b:Bool):Tm:=[(2,.bp 2 0),(3,.bp 3 0),(4,b6 b)]
def abc(b a:Bool):Tm:=[(2,.bp 2 0),(3,.bp 3 0),(4,b6 b),(5,b6 a)]
def abd(d:Rd)(n:cq)(e c:Bool)(a:cq)(b:D)(x:Kj):VS:=[dp d x.1,.box (dcV 0 n e c a b x.c q0 q0 Ke [] []),.box [.bp 0 0],.box [.bp 1 0]]
def abe(d:Rd)(n:cq)(e c:Bool)(a:cq)(b:D)(lo:cH)(x:Kj):VS:=[dp d x.1,.box (dcV 0 n e c a b lo x.c q0 Ke [] []),.box [.bp 0 0],.box [.bp 1 0]]
def Qx{a:Rd}(j:a.Wf){d l:List mM}{p f:Nat}(e:p<a.ts.length)(b:gG a d p=.ok l f):p<f/\f<a.ts.length:=by
 rw[gG]at b;split at b
 ·cases b
 ·rename_i n c;have g:(a.tok p).kind≠0:=by
   intro h;have:∀s,c5 (a.tok p) s=false:=fun s=>by
    cases b:c5 (a.tok p) s with
    |false=>rfl
    |true=>exact absurd h (sL b)
   rw[xJ,this,this,this]at c;cases c
  obtain⟨s,i,_⟩:=dv b;obtain⟨m,k⟩:=jG j dc (j.go p _ (b0 e) g) i;exact⟨om,k⟩
def vk{c:Rd}(ai:c.Wf){h:Nat->PR Ty}{p:Nat}(L:ef h c p)(aK:Good h c p)(l b:Bool)(a:cq)(aB:p<c.ts.length):b4 C ca yQ [.bp 0 0,.bp 1 0] [dp c p,.box (dc0 l b a)] (DcS c (kt h c l b a p)):=by
 have aH:=ai.len;refine cv aea (fun _=>Z) ?_;repeat refine ch ?_
 refine nG (k:=2) ai dc aB 0 ?_ (fun n S B=>?_) (fun q F S B=>?_)
 ·exact Z
 ·obtain⟨bb,aq⟩:=jG ai dc aB B;repeat refine ch ?_
  apply dH (T:=fun _=>Vj) (S:=Kh c 0 n l b a q0 q0 q0 Ke [] []) (I:=fun x:Nat×List mM×D=>S<=x.1/\x.1<c.ts.length/\tG x.2.1 x.2.2/\jZ (gG c) c [] S=.ok x.2.1 x.1)
  ·intro t;refine qV c S (c.tok S) [91] (b0 aq) 0 ?_ ?_
   ·exact Z
   apply aZ<;>intro e
   ·refine FQ ai (gG c) tdI (tdT 0 n l b a (b5 0) T4) [.box (dcV 0 n l b a .ci q0 q0 q0 Ke [] []),.box [.bp 0 0],.box [.bp 1 0]] 4 oQ Z [2,3] (g0:=[]) (a0:=[]) aq e ⟨.nil,agr _⟩ (fun aW aG S aX=>⟨aX.1,agK aX.2⟩) Z Z (fun aG=>by show 4<=5;omega) dc (fun aW aG q2 J bk aI aN I al=>T2 ai 0 n l b a Z aW aG q2 J aI aN I al) (fun aE aD q2 X aC aV s=>?_) (fun q F q2 br X Y=>?_)
    ·have K:S<=q2:=om;rcases aD with _|⟨aw,T⟩
     ·have au:aE=[]:=agy aC.1.len.symm;subst au;exact cw (dB:=Vj) (fU:=Kh c 0 n l b a q0 q0 q0 Ke [] [] (q2,[],.ci)) (.eP 2 [0,1,2,3]) (t (q2,[],.ci) ⟨K,s,.nil,X⟩)
     ·refine rk 4 1 Vj (es:=7) (l:=aw::T) Z Z (gk _) ⟨Z,Z,tv⟩ ⟨tv,tv,tv⟩ (by repeat' (first|exact tv|exact fun _=>⟨rfl,by simp⟩|refine agt ?_ ?_)) (fun bi=>?_);exact cw (dB:=Vj) (fU:=Kh c 0 n l b a q0 q0 q0 Ke [] [] (q2,aE,.ps bi (0*7) 7 (T.length+1) (agE (T.length+1) (agC 0 (aw::T))))) (.eP 2 [0,1,2,3]) (t (q2,aE,_) ⟨K,s,by rw[eT _ _ sm];exact .ps aC.1,X⟩)
    ·exact ku (by simp only[kt,B,X]) om
   ·refine cw (dB:=Vj) (fU:=Kh c 0 n l b a q0 q0 q0 Ke [] [] (S,[],.ci)) .eS (t (S,[],.ci) ⟨agl _,aq,.nil,by rw[jZ,if_neg (by rw[e];decide)]⟩)
  ·rintro⟨q1,M,g⟩ ⟨y,w,A,v⟩;have ba:S<=q1:=y;have s:q1<c.ts.length:=w;have ax:tG M g:=A;have K:jZ (gG c) c [] S=.ok M q1:=v;clear y w A v;apply dH (T:=fun x:Kj=>abb x.2.1) (S:=abd c n l b a g) (I:=fun x:Kj=>q1<=x.1/\x.1<c.ts.length/\eZ x.2.2.1 x.c/\oI h c [62,58] zm q1=.ok (x.2.1,x.2.2.1) x.1)
   ·intro t;refine cI c q1 (c.tok q1) [62,58] (b0 s) om 0 ?_ (fun e=>?_) (fun e=>?_)
    ·exact Z
    ·have z:=ai.step s e;repeat refine de ?_
     repeat refine ch ?_
     refine L.call (q1+1) om z 0 _ _ ?_ (fun j az q3 u d=>?_) (fun q F q3 u=>?_)
     ·exact Z
     ·obtain⟨N,P,tn,Q,R,rfl⟩:=d.cZ;obtain⟨ad,i⟩:=L.lt _ _ _ om z u;repeat refine ch ?_
      exact cw (dB:=abb true) (fU:=(abd c n l b a g) (q3,true,j,N,P,tn,Q,R)) .eS (t (q3,true,j,N,P,tn,Q,R) ⟨by show q1<=q3;omega,i,d,by simp only[oI,e,if_true,u,PR.map]⟩)
     ·have ak:∀t0,oI h c [62,58] t0 q1=.bad q F:=fun t0=>by simp only[oI,e,if_true,u,PR.map]
      exact ku (by simp only[kt,B,K,ak]) sm
    ·repeat refine de ?_
     exact cw (dB:=abb false) (fU:=(abd c n l b a g) (q1,false,zm,1,[],[],.ci,.ci)) .eS (t (q1,false,zm,1,[],[],.ci,.ci) ⟨agl _,s,(eZ.mk .nil .nil),by simp only[oI,e,if_false,agn]⟩)
   ·rintro⟨q2,f,H,I,aa,V,U,f1⟩ ⟨y,w,A,v⟩;have aY:q1<=q2:=y;have E:q2<c.ts.length:=w;have ac:eZ H (eQ I aa V U f1):=A;have ag:oI h c [62,58] zm q1=.ok (f,H) q2:=v;clear y w A v;apply dH (T:=fun x:Kj=>abc f x.2.1) (S:=abe c n l b a g (eQ I aa V U f1)) (I:=fun x:Kj=>q2<=x.1/\x.1<c.ts.length/\eZ x.2.2.1 x.c/\oI h c [60,58] cV q2=.ok (x.2.1,x.2.2.1) x.1)
    ·intro t;refine cI c q2 (c.tok q2) [60,58] (b0 E) om 0 ?_ (fun e=>?_) (fun e=>?_)
     ·exact Z
     ·have z:=ai.step E e;repeat refine de ?_
      repeat refine ch ?_
      refine L.call (q2+1) om z 0 _ _ ?_ (fun j az q3 u d=>?_) (fun q F q3 u=>?_)
      ·exact Z
      ·obtain⟨N,P,tn,Q,R,rfl⟩:=d.cZ;obtain⟨ad,i⟩:=L.lt _ _ _ om z u;repeat refine ch ?_
       exact cw (dB:=(abc f) true) (fU:=(abe c n l b a g (eQ I aa V U f1)) (q3,true,j,N,P,tn,Q,R)) .eS (t (q3,true,j,N,P,tn,Q,R) ⟨by show q2<=q3;omega,i,d,by simp only[oI,e,if_true,u,PR.map]⟩)
      ·have ak:∀t0,oI h c [60,58] t0 q2=.bad q F:=fun t0=>by simp only[oI,e,if_true,u,PR.map]
       exact ku (by simp only[kt,B,K,ag,ak]) sm
     ·repeat refine de ?_
      exact cw (dB:=(abc f) false) (fU:=(abe c n l b a g (eQ I aa V U f1)) (q2,false,cV,0,[],[],.ci,.ci)) .eS (t (q2,false,cV,0,[],[],.ci,.ci) ⟨agl _,E,(eZ.mk .nil .nil),by simp only[oI,e,if_false,agn]⟩)
    ·rintro⟨q3,m,G,al,aR,aM,aQ,f2⟩ ⟨y,w,A,v⟩;have ad:q2<=q3:=y;have i:q3<c.ts.length:=w;have aj:eZ G (eQ al aR aM aQ f2):=A;have av:oI h c [60,58] cV q2=.ok (m,G) q3:=v;clear y w A v;have am:kt h c l b a p=(dI h c [61] q3).map fun j=>⟨0,n,l,b,a,M,if f||m then H else j,if f||m then G else j,j,oe,[],[]⟩:=by simp only[kt,B,K,ag,av]
     intro aO;refine gZ ai [61] i aO _ 0 Z (fun J ae=>?_) (fun J bg=>?_)
     ·repeat refine ch ?_
      refine L.call (q3+1) om ae 0 _ _ ?_ (fun j az ay W d=>?_) (fun q F ay W=>?_)
      ·exact Z
      ·obtain⟨ap,an,ao,ar,f3,rfl⟩:=d.cZ;obtain⟨aA,aS,_,aF⟩:=aK _ _ _ om ae W;repeat refine ch ?_
       have Y:∀(x aP:cH),eZ (if f||m then H else j) x->eZ (if f||m then G else j) aP->rs ⟨0,n,l,b,a,M,if f||m then H else j,if f||m then G else j,j,oe,[],[]⟩ (mR 0 n l b a g x aP (eQ ap an ao ar f3) Ke [] []):=fun x aP aJ aL=>⟨_,_,_,_,_,ax,aJ,aL,d,ZU,rfl⟩;have O:kt h c l b a p=.ok ⟨0,n,l,b,a,M,if f||m then H else j,if f||m then G else j,j,oe,[],[]⟩ ay:=by rw[am];simp only[dI,cu,J,if_true,W,PR.map]
       cases f with
       |true=>exact Kg O (Y _ _ ac aj)
       |false=>
        cases m with
        |true=>exact Kg O (Y _ _ ac aj)
        |false=>
         have ab:ct j<4294967296:=om;repeat refine ch ?_
         refine FR (ct j) ab j [.int .i64 (agj ap),.str an,.str ao,ar,f3] (agl _) d aA (fun d1 ah=>?_);obtain⟨bq,bf,bs,bo,f4,rfl⟩:=ah.cZ;repeat refine ch ?_
         refine FR (ct j) ab j [.int .i64 (agj ap),.str an,.str ao,ar,f3] (agl _) d aA (fun d2 af=>?_);obtain⟨bl,be,bh,bm,f5,rfl⟩:=af.cZ;repeat refine ch ?_
         exact Kg O (Y _ _ ah af)
      ·exact ku (by rw[am];simp only[dI,cu,J,if_true,W,PR.map]) sm
     ·exact ku (by rw[am];simp only[dI,cu,J,if_false,agn,PR.map]) sm
 ·exact ku (by simp only[kt,B]) sm
def mF{f:FuncId}{g:Rd}{p:Nat}{o:PR jX}{e:List V}(v:b4 C ca f [.bp 0 0,.bp 1 0] [dp g p,.box e] (DcS g o))(i m:Nat)(k:i≠m){σ:VS}{t:cO->VS->Prop}(n:nth σ i=some (dp g p))(x:nth σ m=some (.box e))(z:fu 0 e=true) 
  (r:∀l j h,o=.ok l h->rs l j->t (.ret (.dS [])) ((σ.set i (dp g h)).set m (.box (j.map V.d)))) (y:∀c q h A,o=.bad c q->fW 0 A=true->t (.eH (dt c q)) ((σ.set i (dp g h)).set m A)):b4 C ca f [.bp i 0,.bp m 0] σ t:=by
 refine b4.two (dM:=[.bp 0 0,.bp 1 0]) (P:=fun u b a=>fW 0 a=true/\dcK g o u b a) (v.mono fun u B d=>?_) i m k n x Z z Z Z (fun u b a d=>?_)
 ·obtain⟨b,a,D,E,j,l,q⟩:=d;exact⟨b,a,D,E,j,l,l,q⟩
 ·obtain⟨w,d⟩:=d;unfold dcK at d;split at d
  ·obtain⟨rfl,rfl,j,s,rfl⟩:=d;exact r _ j _ Z s
  ·obtain⟨rfl,h,rfl⟩:=d;exact y _ _ h a Z w
def dvK(f:Rd)(h:PR jX)(d:cO)(b:List V):Prop:=match h with
 |.ok g c=>b=xa f c/\∃e,rs g e/\d=.ret (.agg (e.map V.d))
 |.bad a i=>∃c,b=xa f c/\d=.eH (dt a i)
def DvS(e:Rd)(d:PR jX)(c:cO)(b:VS):Prop:=∃a,b=[.box a]/\cM c=true/\fu 0 a=true/\dvK e d c a
theorem RG{f:Rd}{e:Nat}{g:PR jX}{d:jX}{c:cH}{a:VS}(h:g=.ok d e)(b:rs d c):cU 1 (.ret (.agg (c.map V.d))) (dp f e::a) (DvS f g):=by
 subst h;exact cU.drop 1 Z (by show(fW 1 (dp f e)&&mJ 1 a 0)=true;rw[mJ];rfl) (qW 1 c) (cU.now Z ⟨_,Z,qW 0 c,Z,Z,c,b,Z⟩)
def Ck{R:Rd}{q a c:Nat}{b:PR jX}{tl:VS}(h:b=.bad a c):cU 1 (.eH (dt a c)) (dp R q::tl) (DvS R b):=by
 exact aab
def MN{a:Rd}(i:a.Wf){m:Nat->PR Ty}{u:Nat->PR Ex}{p:Nat}(s:ef m a p)(D:Good m a p)(w:mA cR u a p)(l:p<a.ts.length):b4 C ca wS [.bp 0 0] [dp a p] (DvS a (j6 m u a p)):=by
 have F:=i.len;refine cm ?_;refine cI a p (a.tok p) [101,120,112,111,114,116] (b0 l) om 0 Z (fun t=>?_) (fun t=>?_)
 ·have c:=i.step l t;refine cI a (p+1) (a.tok (p+1)) [100,101,112,114,101,99,97,116,101,100] (b0 c) om 0 ?_ (fun v=>?_) (fun v=>?_)
  ·exact Z
  ·have z:=i.step c v;refine nG (k:=4) i dc z 0 ?_ (fun E g y=>?_) (fun e j g y=>?_)
   ·exact Z
   ·obtain⟨G,r⟩:=jG i dc z y;have hh:og a p=.ok (true,true,E) g:=by simp only[og,t,v,if_true,y,PR.map]
    have f:ef m a (g+1):=⟨fun b x g A=>s.lt b x g om,fun b A=>s.call b om⟩;have n:Good m a (g+1):=fun b x g A=>D b x g om;have h:mA cR u a (g+1):=w.up om;refine cI a g (a.tok g) [116,121,112,101] (b0 r) om 0 ?_ (fun h7=>?_) (fun h7=>?_)
    ·exact Z
    ·refine mF (vk i f n true true E (i.step r h7)) 0 2 dc ?_ ?_ Z (fun d B q4 e4 hd=>?_) (fun e j q4 q e4 o=>?_)
     ·exact Z
     ·exact Z
     ·exact Sg
     ·exact XX
    ·refine cI a g (a.tok g) [108,101,116] (b0 r) om 0 ?_ (fun h8=>?_) (fun h8=>?_)
     ·exact Z
     ·refine mF (vh i f h true true E (i.step r h8)) 0 2 dc ?_ ?_ Z (fun d B q4 e4 hd=>?_) (fun e j q4 q e4 o=>?_)
      ·exact Z
      ·exact Z
      ·exact Sf
      ·exact XK
     ·refine cI a g (a.tok g) [117,115,101] (b0 r) om 0 ?_ (fun h9=>?_) (fun h9=>?_)
      ·exact Z
      ·refine mF (vg i true true E (i.step r h9)) 0 2 dc ?_ ?_ Z (fun d B q4 e4 hd=>?_) (fun e j q4 q e4 o=>?_)
       ·exact Z
       ·exact Z
       ·exact Se
       ·exact XJ
      ·refine eF a g _ (b0 r) 0 ?_ ?_
       ·exact Z
       refine fK _ (a.tok g).off 3 ?_;exact XN
   ·exact Ck (by simp only[j6,og,t,v,if_true,y,PR.map])
  ·have hh:og a p=.ok (true,false,[]) (p+1):=by simp only[og,t,v,if_true,if_false,agn]
   have f:ef m a ((p+1)+1):=⟨fun b x g A=>s.lt b x g om,fun b A=>s.call b om⟩;have n:Good m a ((p+1)+1):=fun b x g A=>D b x g om;have h:mA cR u a ((p+1)+1):=w.up om;refine cI a (p+1) (a.tok (p+1)) [116,121,112,101] (b0 c) om 0 ?_ (fun h7=>?_) (fun h7=>?_)
   ·exact Z
   ·refine mF (vk i f n true false [] (i.step c h7)) 0 2 dc ?_ ?_ Z (fun d B q4 e4 hd=>?_) (fun e j q4 q e4 o=>?_)
    ·exact Z
    ·exact Z
    ·exact Sg
    ·exact XX
   ·refine cI a (p+1) (a.tok (p+1)) [108,101,116] (b0 c) om 0 ?_ (fun h8=>?_) (fun h8=>?_)
    ·exact Z
    ·refine mF (vh i f h true false [] (i.step c h8)) 0 2 dc ?_ ?_ Z (fun d B q4 e4 hd=>?_) (fun e j q4 q e4 o=>?_)
     ·exact Z
     ·exact Z
     ·exact Sf
     ·exact XK
    ·refine cI a (p+1) (a.tok (p+1)) [117,115,101] (b0 c) om 0 ?_ (fun h9=>?_) (fun h9=>?_)
     ·exact Z
     ·refine mF (vg i true false [] (i.step c h9)) 0 2 dc ?_ ?_ Z (fun d B q4 e4 hd=>?_) (fun e j q4 q e4 o=>?_)
      ·exact Z
      ·exact Z
      ·exact Se
      ·exact XJ
     ·refine eF a (p+1) _ (b0 c) 0 ?_ ?_
      ·exact Z
      refine fK _ (a.tok (p+1)).off 3 ?_;exact XN
 ·have hh:og a p=.ok (false,false,[]) p:=by simp only[og,t,if_false,agn]
  have f:ef m a (p+1):=⟨fun b x g A=>s.lt b x g om,fun b A=>s.call b om⟩;have n:Good m a (p+1):=fun b x g A=>D b x g om;have h:mA cR u a (p+1):=w.up om;refine cI a p (a.tok p) [116,121,112,101] (b0 l) om 0 ?_ (fun h7=>?_) (fun h7=>?_)
  ·exact Z
  ·refine mF (vk i f n false false [] (i.step l h7)) 0 2 dc ?_ ?_ Z (fun d B q4 e4 hd=>?_) (fun e j q4 q e4 o=>?_)
   ·exact Z
   ·exact Z
   ·exact Sg
   ·exact XX
  ·refine cI a p (a.tok p) [108,101,116] (b0 l) om 0 ?_ (fun h8=>?_) (fun h8=>?_)
   ·exact Z
   ·refine mF (vh i f h false false [] (i.step l h8)) 0 2 dc ?_ ?_ Z (fun d B q4 e4 hd=>?_) (fun e j q4 q e4 o=>?_)
    ·exact Z
    ·exact Z
    ·exact Sf
    ·exact XK
   ·refine cI a p (a.tok p) [117,115,101] (b0 l) om 0 ?_ (fun h9=>?_) (fun h9=>?_)
    ·exact Z
    ·refine mF (vg i false false [] (i.step l h9)) 0 2 dc ?_ ?_ Z (fun d B q4 e4 hd=>?_) (fun e j q4 q e4 o=>?_)
     ·exact Z
     ·exact Z
     ·exact Se
     ·exact XJ
    ·refine eF a p _ (b0 l) 0 ?_ ?_
     ·exact Z
     refine fK _ (a.tok p).off 3 ?_;exact XN
def mdK(g:Rd)(h:PR (FO×List Nat))(e:cO)(c:List V):Prop:=match h with
 |.ok m d=>c=xa g d/\∃f a,At m.1 f/\FP m.2 a/\e=.ret (.dS [.agg (f.map V.d),.d a])
 |.bad b i=>∃d,c=xa g d/\e=.eH (dt b i)
def MdS(e:Rd)(d:PR (FO×List Nat))(c:cO)(b:VS):Prop:=∃a,b=[.box a]/\cM c=true/\fu 0 a=true/\mdK e d c a
def w8{R:Rd}{q a c:Nat}{b:PR (FO×List Nat)}{tl:VS}(h:b=.bad a c):cU 1 (.eH (dt a c)) (dp R q::tl) (MdS R b):=by
 exact aab
def E2{a:Rd}(t:a.Wf){b:Nat->PR Ty}{c:Nat->PR Ex}{p:Nat}(o:ef b a p)(r:Good b a p)(g:mA cR c a p)(l:p<a.ts.length)(f:Nat){σ:VS}{n:cO->VS->Prop}(d:nth σ f=some (dp a p)) 
  (k:∀i j q,j6 b c a p=.ok i q->rs i j->n (.ret (.agg (j.map V.d))) (σ.set f (dp a q))) (k2:∀off e q,j6 b c a p=.bad off e->n (.eH (dt off e)) (σ.set f (dp a q))):b4 C ca wS [.bp f 0] σ n:=by
 refine b4.one (dM:=[.bp 0 0]) (P:=dvK a (j6 b c a p)) (MN t o r g l) f d Z Z Z (fun u s h=>?_);unfold dvK at h;split at h
 ·rename_i i q e;obtain⟨rfl,j,m,rfl⟩:=h;exact k i j q e m
 ·exact Vp
def aeb:Nat->Bool:=fun a=>agv a 8||agv a 19||agv a 27||agv a 38||agv a 44
def aec(b:Rd)(a:cq)(x:Nat×List vY):VS:=[dp b x.1,.box [cn [],.d .ci,.d .ci],.box [cn a,kV 3 2 (x.2.map fF),.d .ci],kO 2 (x.2.map fF)]
def dlT(a:List Nat):Tm:=[(0,.bp 0 0),(2,.bp 1 0),(4,.bp 2 0),(5,kV 4 1 (a.map fun n=>[.int .i64 (agj n)]))]
def dlS(c:Rd)(b:cq)(a:D)(x:Nat×List cH×List Nat):VS:=[dp c x.1,.box [cn [],.d .ci,.d .ci],.box [cn b,.d a,kV 3 31 x.2.1],kO 31 x.2.1,kO 1 (x.2.2.map fun n=>[.int .i64 (agj n)])]
def oh.len{l:List jX}{els:List cH}(h:oh l els):els.length=l.length:=by
 exact RZ
def oh.snoc{l:List jX}{els:List cH}{p:jX}{b:cH}(h:oh l els)(hp:rs p b):oh (l++[p]) (els++[b]):=by
 exact aam
def ZV(n:Nat):cH:=[.int .i64 (agj n)]
def abG{a:Nat->Nat}{c d:Nat}(b:Nat)(or:List Nat)(x:Nat)(e:a c=d):some (V.ms d 1 0 ((or.map fun n=>([.int .i64 (agj n)]:cH)).length+1+1) ((or.map fun n=>([.int .i64 (agj n)]:cH)).length+1+1))=some (gW a (kV c 1 (((b::or)++[x]).map fun n=>[.int .i64 (agj n)]))):=by
 subst e;rw[agH,nB];exact congrArg some (li _ 1 (ZV b) (or.map ZV) (ZV x))
def Z7{b:Nat->Nat}(a:Nat)(or:List Nat)(x:Nat):some (cN.row 1 (agE ((or.map fun n=>([.int .i64 (agj n)]:cH)).length+1) (agC 0 (agJ (fun c=>agJ V.d c) (ZV a::or.map fun n=>([.int .i64 (agj n)]:cH))))++[(ZV x).map V.d]))=some (hV b (kO 1 (((a::or)++[x]).map fun n=>[.int .i64 (agj n)]))):=by
 rw[agH];exact jQ b 1 (ZV a) (or.map ZV) (ZV x)
def Z6{d:Nat->Nat}{f g:Nat}(e:cq)(a:D)(d0:cH)(b:List cH)(c:cH)(h:d f=g):some (cN.box [cn e,.d a,.ms g 31 0 (b.length+1+1) (b.length+1+1)])=some (hV d (.box [cn e,.d a,kV f 31 ((d0::b)++[c])])):=by
 subst h;show _=some (cN.box [cn e,.d a,gW d (kV f 31 ((d0::b)++[c]))]);rw[nB,<-li _ 31 d0 b c]
theorem abH{m b:Nat}(c:cq)(a:D)(l:List cH)(d:Nat.blt b m=true):fW m (.box [cn c,.d a,kV b 31 l])=true:=by
 show(true&&(true&&(bd m (kV b 31 l)&&true)))=true;rw[kZ 31 _ d];rfl
def Cg{c:Rd}(f:c.Wf){C:Nat->PR Ty}{K:Nat->PR Ex}{lo:Nat}(B:∀p x a,lo<=p->p<c.ts.length->C p=.ok x a->p<a/\a<c.ts.length)(ad:∀p x a,lo<=p->p<c.ts.length->K p=.ok x a->p<a/\a<c.ts.length){p a:Nat}{E:jX}(al:lo<=p)(N:p<c.ts.length)(h:j6 C K c p=.ok E a):p<a/\a<c.ts.length:=by
 have ai:∀{s:cq} {ao p a},p<c.ts.length->cu c [s] p=.ok ao a->p<a/\a<c.ts.length:=fun hp h=>by
  have e1:=cL _ _ _ h;have e2:=da f _ _ _ hp h;exact XP
 have y:∀{j:Type} {H:Nat->PR j} {s:cq} {p a:Nat} {x:j},(∀e k,p<e->e<c.ts.length->H e=.ok x k->e<k/\k<c.ts.length)->p<c.ts.length->dI H c s p=.ok x a->p<a/\a<c.ts.length:=by
  intro j H s p a x aa hp h;rw[dI]at h;split at h
  ·cases h
  ·rename_i ap q1 ab;obtain⟨q,T⟩:=ai hp ab;obtain⟨ag,E⟩:=aa _ _ q T h;exact⟨om,E⟩
 have P:∀{s:cq} {t0:Ty} {p a:Nat} {x:Bool×Ty},lo<=p->p<c.ts.length->oI C c s t0 p=.ok x a->p<=a/\a<c.ts.length:=by
  intro s t0 p a x i hp h;rw[oI]at h;split at h
  ·rename_i l;obtain⟨ae,w,_⟩:=dv h;obtain⟨q,T⟩:=B _ _ _ om (f.step hp l) w;exact⟨om,T⟩
  ·exact NC
 have W:∀{j:Type} {step:j->Nat->PR j} {q g:j} {p a:Nat},(∀q p g a,lo<=p->p<c.ts.length->step q p=.ok g a->p<a/\a<c.ts.length)->lo<=p->p<c.ts.length->jZ step c q p=.ok g a->p<=a/\a<c.ts.length:=by
  intro j step q g p a l i hp h;rw[jZ]at h;split at h
  ·rename_i G;obtain⟨ag,E⟩:=T5 f l _ _ _ _ _ om (f.step hp G) h;exact⟨om,E⟩
  ·exact NC
 have ah:∀q p g a,lo<=p->p<c.ts.length->ia C c q p=.ok g a->p<a/\a<c.ts.length:=by
  intro q p g a i hp h;rw[ia]at h;split at h
  ·cases h
  ·rename_i s q1 l;obtain⟨ag,E⟩:=jG f dc hp l;split at h
   ·rename_i G;obtain⟨ae,w,_⟩:=dv h;obtain⟨x,aj⟩:=B _ _ _ om (f.step E G) w;exact⟨om,aj⟩
   ·cases h;exact⟨ag,E⟩
 rw[j6]at h;split at h
 ·cases h
 ·rename_i ak L o;have O:p<=L/\L<c.ts.length:=by
   rw[og]at o;split at o
   ·rename_i Q;have D:=f.step N Q;split at o
    ·rename_i M;have S:=f.step D M;obtain⟨s,l,_⟩:=dv o;obtain⟨q,T⟩:=jG f dc S l;exact⟨om,T⟩
    ·cases o;exact⟨om,D⟩
   ·cases o;exact⟨agl _,N⟩
  obtain⟨O,A⟩:=O;split at h
  ·rename_i v;have i:=f.step A v;rw[kt]at h;split at h
   ·cases h
   ·rename_i n q1 e1;obtain⟨U,r⟩:=jG f dc i e1;split at h
    ·cases h
    ·rename_i X q2 e2;obtain⟨V,z⟩:=W (fun q p g a _ hp h=>Qx f hp h) om r e2;split at h
     ·cases h
     ·rename_i x q3 J;obtain⟨Y,I⟩:=P om z J;split at h
      ·cases h
      ·rename_i aj q4 af;obtain⟨am,ac⟩:=P om I af;obtain⟨ae,t,_⟩:=dv h;obtain⟨R,u⟩:=y (fun e k F b d=>B _ _ _ om b d) ac t;exact⟨om,u⟩
  ·split at h
   ·rename_i v;have i:=f.step A v;rw[mB]at h;split at h
    ·cases h
    ·rename_i n q1 e1;obtain⟨U,r⟩:=fS f i e1;split at h
     ·cases h
     ·rename_i X q2 e2;obtain⟨V,z⟩:=W ah om r e2;split at h
      ·cases h
      ·rename_i ae q3 J;obtain⟨Y,I⟩:=y (fun e k F b d=>B _ _ _ om b d) z J;obtain⟨x,t,_⟩:=dv h;obtain⟨R,u⟩:=y (fun e k F b d=>ad _ _ _ om b d) I t;exact⟨om,u⟩
   ·split at h
    ·rename_i v;have i:=f.step A v;rw[kQ]at h;split at h
     ·cases h
     ·rename_i m q1 e1;obtain⟨U,r⟩:=fS f i e1;split at h
      ·cases h
      ·rename_i an q2 e2;obtain⟨V,z⟩:=y (fun e k _ b d=>(ve f).lt _ _ _ b d) r e2;obtain⟨x,t,_⟩:=dv h;obtain⟨R,u⟩:=y (fun e k _ b d=>(ve f).lt _ _ _ b d) z t;exact⟨om,u⟩
    ·cases h
def OD{g:Rd}{f:Nat}{s:cq}{is:List vY}{a:D}{d:List jX}{e:PR (FO×List Nat)}(h:e=.ok (⟨s,is,d⟩,[]) f)(c:wY is a)(b:oh d []):cU 1 (.ret (.dS [.agg [cn s,.d a,.d .ci],.d .ci])) [dp g f,.box [cn s,.d a,.d .ci],.box [cn s,.d a,.d .ci],.gone,.gone] (MdS g e):=by
 cases b;subst h;exact cU.drop 1 Z Z Z (cU.now Z ⟨_,Z,Z,Z,Z,[.str s,a,.ci],.ci,⟨a,.ci,c,.nil,Z⟩,.nil,Z⟩)
def OE{m:Rd}{l:Nat}{d:cq}{is:List vY}{a:D}{g:List jX}{d0:cH}{b:List cH}{c:Nat}{or:List Nat}{k:PR (FO×List Nat)}(h:k=.ok (⟨d,is,g⟩,c::or) l)(f:wY is a)(e:oh g (d0::b)):cU 1 (.ret (.dS [.agg [cn d,.d a,kV 3 31 (d0::b)],kV 4 1 ((c::or).map fun n=>[.int .i64 (agj n)])])) [dp m l,.box [cn d,.d a,kV 3 31 (d0::b)],.box [cn d,.d a,kV 3 31 (d0::b)],kO 31 (d0::b),kO 1 ((c::or).map fun n=>[.int .i64 (agj n)])] (MdS m k):=by
 subst h;refine cU.freeze 3 (es:=31) (l:=d0::b) Z (gk _) (by repeat' (first|exact tv|exact fun _=>⟨rfl,by simp⟩|exact fun h=>absurd (show(4:Nat)=3 from h) dc|refine agt ?_ ?_)) (fun o=>?_);refine cU.freeze 4 (es:=1) (l:=(c::or).map fun n=>[.int .i64 (agj n)]) Z (gk _) (by repeat' (first|exact tv|exact fun _=>⟨rfl,by simp⟩|refine agt ?_ ?_)) (fun j=>?_);refine cU.forget 1 (cU.forget 2 ?_);refine cU.drop 1 Z Z Z (cU.now Z ⟨_,Z,Z,Z,Z,[.str d,a,.ps o (0*31) 31 (b.length+1) (agE (b.length+1) (agC 0 (d0::b)))],.ps j (0*1) 1 ((or.map fun n=>([.int .i64 (agj n)]:cH)).length+1) (agE ((or.map fun n=>([.int .i64 (agj n)]:cH)).length+1) (agC 0 ((c::or).map fun n=>[.int .i64 (agj n)]))),⟨a,_,f,?_,Z⟩,?_,Z⟩)
 ·rw[eT _ _ sm];exact .ps e (agl _)
 ·rw[eT _ _ sm];exact .ps
def adv{c n a:Nat}(e:c<=65537)(d:n<=1)(b:a<=2000):(c+n)*a<=fy/\c+n<=fy:=by
 unfold fy;constructor
 ·calc (c+n)*a<=65538*2000:=Nat.mul_le_mul om b
   _<=_:=dc
 ·omega
def abf{c:Nat->Nat}{e f:Nat}(d:cq)(b:vY)(a:List vY)(x:vY)(g:c e=f):some (cN.box [cn d,.ms f 2 0 ((a.map fF).length+1+1) ((a.map fF).length+1+1),.d .ci])=some (hV c (.box [cn d,kV e 2 (((b::a)++[x]).map fF),.d .ci])):=by
 subst g;rw[agH];show _=some (cN.box [cn d,gW c (kV e 2 ((fF b::a.map fF)++[fF x])),.d .ci]);rw[nB,<-li _ 2 (fF b) (a.map fF) (fF x)]
theorem acX{m a:Nat}(c:cq)(l:List vY)(b:Nat.blt a m=true):fW m (.box [cn c,kV a 2 (l.map fF),.d .ci])=true:=by
 show(true&&(bd m (kV a 2 (l.map fF))&&true))=true;rw[kZ 2 _ b];rfl
def abg{c:Nat->Nat}(b:vY)(a:List vY)(x:vY):some (cN.row 2 (agE ((a.map fF).length+1) (agC 0 (agJ (fun d=>agJ V.d d) (fF b::a.map fF)))++[(fF x).map V.d]))=some (hV c (kO 2 (((b::a)++[x]).map fF))):=by
 rw[agH];exact jQ c 2 (fF b) (a.map fF) (fF x)
theorem Qy{R:Rd}(w:R.Wf)(F:R.Nm)(E:R.ts.length<=65537){g:Nat->PR Ty}{i:Nat->PR Ex}{p:Nat}(ht:ef g R p)(hg:Good g R p)(hex:mA cR i R p)(ae:p<R.ts.length):b4 C ca vu [.bp 0 0] [dp R p] (MdS R (tQ g i R p)):=by
 have ad:=w.len;refine cv aeb (fun _=>Z) ?_;intro ab;refine gZ w [109,111,100,117,108,101] ae ab _ 0 Z (fun P S=>?_) (fun P ag=>?_)
 ·refine(xO w F E).call (p+1) S 0 ?_ (fun s q Q=>?_) (fun off er q Q=>?_)
  ·exact Z
  ·obtain⟨ai,ac⟩:=(xO w F E).lt _ _ _ S Q;have hM:tQ g i R p=match fT R R.ts.length [] q with
     |.bad al e=>.bad al e
     |.ok m q1=>(ib g i R R.ts.length [] [] q1).map fun x=>(⟨s,m,x.1⟩,x.2):=by
    simp only[tQ,dI,cu,P,if_true,Q];try rfl
   refine cD (dB:=[(0,.bp 0 0),(2,.bp 1 0),(4,.bp 2 0),(5,.d .ci)]) ?_;refine cd.gone ?_;refine cd.iter (fun _:Nat×List vY=>[(0,.bp 0 0),(2,.bp 1 0),(4,.bp 2 0),(5,.d .ci)]) (aec R s) (fun x=>R.ts.length-x.1)
    (fun x=>q<=x.1/\x.1<R.ts.length/\x.2.length<=x.1/\∃u,R.ts.length-x.1<=u/\fT R R.ts.length [] q=fT R u x.2 x.1) ?_ (q,[]) ⟨agl _,ac,agr _,_,by show R.ts.length-q<=R.ts.length;omega,rfl⟩
   rintro⟨q1,m⟩ ⟨z,v,B,u,y,A⟩;have ah:q<=q1:=z;have r:q1<R.ts.length:=v;have U:m.length<=q1:=B;have an:R.ts.length-q1<=u:=y;have o:fT R R.ts.length [] q=fT R u m q1:=A;clear z v B y A;obtain⟨u,rfl⟩:∃L,u=L+1:=⟨u-1,om⟩;rw[fT]at o;refine cI R q1 (R.tok q1) [105,109,112,111,114,116] (b0 r) om 0 Z (fun N=>?_) (fun N=>?_)
   ·have G:=w.step r N;rw[if_pos N]at o;refine(xO w F E).call (q1+1) G 0 ?_ (fun D q3 H=>?_) (fun off er q3 H=>?_)
    ·exact Z
    ·obtain⟨ak,W⟩:=(xO w F E).lt _ _ _ G H;intro af;refine gZ w [97,115] W af _ 0 ?_ (fun O V=>?_) (fun O ag=>?_)
     ·exact Z
     ·refine pu w V 0 ?_ (fun a j M=>?_) (fun off er j M=>?_)
      ·exact Z
      ·obtain⟨aj,J⟩:=fS w V M;have k:iu R (q1+1)=.ok ⟨D,a⟩ j:=by simp only[iu,H,dI,cu,O,if_true,M,PR.map]
       rw[k]at o;intro am;rcases m with _|⟨l,f⟩
       ·refine a6 Z (a6 ⟨agk Z,agk Z⟩ (a7 Z ?_));exact⟨(j,[⟨D,a⟩]),⟨by show q<=j;omega,J,by show 1<=j;omega,u,by show R.ts.length-j<=u;omega,o⟩,by show R.ts.length-j<R.ts.length-q1;omega,.pick 1 [0,1,2,5] ⟨Z,Z,Z,Z,tv⟩ Z Z Z Z Z dc ⟨Z,Z,Z,Z,Z,Z,lj _ 2 [.str D,.str a],gH _ _ _,tv⟩,Z,Z⟩
       ·have X:(f.map fF).length+1<=4294967296:=by simp only[agm,agI]at U⊢;omega
        refine a6 Z (a6 ⟨Z,Z,by simp,agl _,rB X (agl _) (agk Z)⟩ (a7 Z (a7 (lk _) ?_)));exact⟨(j,(l::f)++[(⟨D,a⟩:vY)]),⟨by show q<=j;omega,J,by show((l::f)++[(⟨D,a⟩:vY)]).length<=j;simp only[ago,agm,agq]at U⊢;omega,u,by show R.ts.length-j<=u;omega,o⟩,by show R.ts.length-j<R.ts.length-q1;omega,.pick 1 [0,1,2,5] ⟨Z,Z,Z,Z,tv⟩ Z Z Z Z Z dc ⟨Z,Z,Z,Z,abf s l f ⟨D,a⟩ Z,acX _ _ Z,abg l f ⟨D,a⟩,gH _ _ _,tv⟩,Z,Z⟩
      ·have k:iu R (q1+1)=.bad off er:=by simp only[iu,H,dI,cu,O,if_true,M,PR.map]
       exact w8 (by rw[hM,o,k])
     ·have k:iu R (q1+1)=.bad (R.tok q3).off 3:=by simp only[iu,H,dI,cu,O,if_false,agn,PR.map]
      exact w8 (by rw[hM,o,k])
    ·have k:iu R (q1+1)=.bad off er:=by simp only[iu,H]
     exact w8 (by rw[hM,o,k])
   ·rw[if_neg (by rw[N];decide)]at o;rw[o]at hM;dsimp only at hM;rcases m with _|⟨l,f⟩
    ·refine cd.gone ?_;refine cw (dB:=dlT []) (fU:=dlS R s .ci (q1,[],[])) .eS ?_;refine cd.iter (fun x:Nat×List cH×List Nat=>dlT x.2.2) (dlS R s .ci) (fun x=>R.ts.length-x.1)
      (fun x=>q1<=x.1/\x.1<R.ts.length/\x.2.1.length<=x.1/\x.2.2.length=x.2.1.length/\∃u ds,R.ts.length-x.1<=u/\oh ds x.2.1/\ib g i R R.ts.length [] [] q1=ib g i R u ds x.2.2 x.1) ?_ (q1,[],[]) ⟨agl _,r,agr _,rfl,_,[],by show R.ts.length-q1<=R.ts.length;omega,.nil,rfl⟩
     rintro⟨q2,els,os⟩ ⟨z,v,B,y,f2,ds,A,I,K⟩;have G:q1<=q2:=z;have F5:q2<R.ts.length:=v;have Bm:els.length<=q2:=B;have Vm:os.length=els.length:=y;have aa:R.ts.length-q2<=f2:=A;have Z5:oh ds els:=I;have hd:ib g i R R.ts.length [] [] q1=ib g i R f2 ds os q2:=K;clear z v B y A I K;obtain⟨f2,rfl⟩:∃L,f2=L+1:=⟨f2-1,om⟩;rw[ib]at hd;refine eF R q2 _ (b0 F5) 0 Z ?_;apply aZ<;>intro h6
     ·exact X6
     ·have XC:(R.tok q2).kind=0:=l3 h6;rw[if_neg (by rw[XC];decide)]at hd;rcases els with _|⟨d0,dr⟩
      ·obtain rfl:os=[]:=agy Vm;exact OD (is:=[]) (by simp only[hM,hd,PR.map]) .nil Z5
      ·obtain⟨o0,or,rfl⟩:∃a b,os=a::b:=by cases os with
        |nil=>simp at Vm
        |cons a b=>exact⟨a,b,rfl⟩
       refine OE (is:=[]) (by simp only[hM,hd,PR.map]) .nil Z5
    ·refine rk 3 2 [(0,.bp 0 0),(2,.bp 1 0),(4,.bp 2 0),(5,.d .ci)] (es:=2) (l:=(l::f).map fF) Z Z (gk _) ⟨Z,Z,Z,Z,tv⟩ ⟨tv,tv,tv,tv,tv⟩ ⟨tv,fun _=>⟨Z,by simp⟩,tv,tv⟩ (fun b=>?_);refine cd.gone ?_;refine cw (dB:=dlT []) (fU:=dlS R s (.ps b (0*2) 2 ((f.map fF).length+1) (agE ((f.map fF).length+1) (agC 0 ((l::f).map fF)))) (q1,[],[])) .eS ?_;refine cd.iter (fun x:Nat×List cH×List Nat=>dlT x.2.2) (dlS R s (.ps b (0*2) 2 ((f.map fF).length+1) (agE ((f.map fF).length+1) (agC 0 ((l::f).map fF))))) (fun x=>R.ts.length-x.1)
      (fun x=>q1<=x.1/\x.1<R.ts.length/\x.2.1.length<=x.1/\x.2.2.length=x.2.1.length/\∃u ds,R.ts.length-x.1<=u/\oh ds x.2.1/\ib g i R R.ts.length [] [] q1=ib g i R u ds x.2.2 x.1) ?_ (q1,[],[]) ⟨agl _,r,agr _,rfl,_,[],by show R.ts.length-q1<=R.ts.length;omega,.nil,rfl⟩
     rintro⟨q2,els,os⟩ ⟨z,v,B,y,f2,ds,A,I,K⟩;have G:q1<=q2:=z;have F5:q2<R.ts.length:=v;have Bm:els.length<=q2:=B;have Vm:os.length=els.length:=y;have aa:R.ts.length-q2<=f2:=A;have Z5:oh ds els:=I;have hd:ib g i R R.ts.length [] [] q1=ib g i R f2 ds os q2:=K;clear z v B y A I K;obtain⟨f2,rfl⟩:∃L,f2=L+1:=⟨f2-1,om⟩;rw[ib]at hd;refine eF R q2 _ (b0 F5) 0 Z ?_;apply aZ<;>intro h6
     ·exact X6
     ·have XC:(R.tok q2).kind=0:=l3 h6;rw[if_neg (by rw[XC];decide)]at hd;rcases els with _|⟨d0,dr⟩
      ·obtain rfl:os=[]:=agy Vm;exact OD (is:=(l::f)) (by simp only[hM,hd,PR.map]) (by rw[eT _ _ sm];exact .ps sm) Z5
      ·obtain⟨o0,or,rfl⟩:∃a b,os=a::b:=by cases os with
        |nil=>simp at Vm
        |cons a b=>exact⟨a,b,rfl⟩
       refine OE (is:=(l::f)) (by simp only[hM,hd,PR.map]) (by rw[eT _ _ sm];exact .ps sm) Z5
  ·exact w8 (by simp only[tQ,dI,cu,P,if_true,Q])
 ·exact w8 (by simp only[tQ,dI,cu,P,if_false,agn])
def nI{k:Nat}{m n x:cq}{num:Int}:cP (.mk k m n x num [] [] [])=1:=by
 rw[cP,cQ];split<;>simp[cy]
def ej.leaf{k:Nat}{m n x:cq}{num:Int}{types:List Ty}(b:fB (.mk k m n x num types [] [])):ej (.mk k m n x num types [] []):=.mk b (fun x a=>by cases a)
def ej.one{k:Nat}{m n x:cq}{num:Int}{types:List Ty}{labels:List lK}{c:Ex}(d:fB (.mk k m n x num types labels [c]))(a:ej c):ej (.mk k m n x num types labels [c]):=.mk d (fun e b=>by
 obtain rfl:=agz.1 b;exact a)
def ej.two{k:Nat}{m n x:cq}{num:Int}{types:List Ty}{labels:List lK}{d b:Ex}(f:fB (.mk k m n x num types labels [d,b]))(c:ej d)(e:ej b):ej (.mk k m n x num types labels [d,b]):=.mk f (fun g a=>by
 rcases agF.1 a with rfl|a
 ·exact c
 ·obtain rfl:=agz.1 a;exact e)
def ej.three{k:Nat}{m n x:cq}{num:Int}{types:List Ty}{labels:List lK}{e b c:Ex}(h:fB (.mk k m n x num types labels [e,b,c]))(d:ej e)(f:ej b)(g:ej c):ej (.mk k m n x num types labels [e,b,c]):=.mk h (fun i a=>by
 rcases agF.1 a with rfl|a
 ·exact d
 ·rcases agF.1 a with rfl|a
  ·exact f
  ·obtain rfl:=agz.1 a;exact g)
def gS{k:Nat}{m n x:cq}{num:Int}{types:List Ty}{kids:List Ex}:cP (.mk k m n x num types [] kids)=1+cy types+cQ kids:=by
 rw[cP];split<;>simp
def FT{e:Rd}(h:e.Wf){b p f:Nat}{x:Ex}(g:p<e.ts.length)(a:sT b e p=.ok x f):ej x/\cP x+p<=f/\p<f/\f<e.ts.length:=by
 rw[sT]at a;split at a
 ·cases a
 ·rename_i c;have c:(e.tok p).kind=3:=by simpa using c
  have d:=h.go p _ (b0 g) om;split at a
  ·split at a
   ·cases a
   ·cases a;exact⟨.leaf .int,by rw[nI];omega,om,d⟩
  ·cases a
def Kn{t:Tok}{a:List cq}{o:cq}(d:xj t a=some o):o∈a/\c5 t o=true:=by
 obtain⟨e,b,rfl,c,_⟩:=vS d;exact⟨agu b,c⟩
def QJ{k:Rd}(B:k.Wf){fn:Nat->PR Ex}{c:List cq}(r:∀p∈c,p∈BK){lo:Nat}(t:eX fn k lo):∀(n:Nat) (x:Ex) (b a:Nat) (f:Ex) (e:Nat),lo<=b->b<k.ts.length->ej x->cP x+a<=b->a<b->zf fn c k n x b=.ok f e->ej f/\cP f+a<=e/\a<e/\e<k.ts.length:=by
 intro n;induction n with
 |zero=>intro x b a f e _ _ _ _ _ d;cases d
 |succ n u=>
  intro x b a f e z h l s o d;rw[zf]at d;split at d
  ·cases d;exact⟨l,s,o,h⟩
  ·rename_i p j;obtain⟨i,v⟩:=Kn j;have g:=B.step h v;split at d
   ·cases d
   ·rename_i w m q;obtain⟨y,C,D,A⟩:=t (b+1) w m om g q;refine u _ m a f e om A (.two (.two (r p i)) l y) ?_ om d;rw[gS];simp only[cy,cQ];omega
def wa{e:Rd}(r:e.Wf){fn:Nat->PR Ex}{a:List cq}(f:∀o∈a,o∈BK){lo:Nat}(b:eX fn e lo):eX (oH fn a e) e lo:=by
 intro j l p i g d;rw[oH]at d;split at d
 ·cases d
 ·rename_i x c h;obtain⟨n,m,q,k⟩:=b j x c i g h;exact QJ r f b _ x c j l p om k n m q d
def Ko{d:Nat->PR Ty}{k:Rd}:∀(f:Nat) (b:List Ty) (g:Nat) (h:List Ty) (i:Nat),ey d k f b g=.ok h i->h≠[]:=by
 intro f;induction f with
 |zero=>intro b g h i a;cases a
 |succ f j=>
  intro b g h i a;rw[ey]at a;cases c:d g with
  |bad m l=>rw[c]at a;cases a
  |ok o q1=>
   rw[c]at a;dsimp only at a;split at a
   ·exact j _ _ _ _ a
   ·cases e:cu k [[93]] q1 with
    |bad m l=>rw[e]at a;cases a
    |ok n q2=>rw[e]at a;cases a;simp
def Kp{a:Rd}(C:a.Wf)(f:a.Nm){l:Nat->PR Ty}{s:cq}{p d:Nat}{x:Ex}(y:Good l a p)(e:cK s=true)(w:p<a.ts.length)(b:iH l a s p=.ok x d):ej x/\cP x+p<=d+1/\p<=d/\d<a.ts.length:=by
 have r:s≠[]:=fun F=>by rw[F]at e;cases e
 rw[iH]at b;have g:∀(k:Nat) (m n:cq) (q1:Nat),((k=4/\m=s)∨(k=3/\m=[]))->cK n=true->p<=q1->q1<a.ts.length->(if c5 (a.tok q1) [91]=true then(jV l a q1).map fun D=>Ex.mk 4 m n [] 0 D [] []else .ok (.mk k m n [] 0 [] [] []) q1)=.ok x d->ej x/\cP x+p<=d+1/\p<=d/\d<a.ts.length:=by
  intro k m n q1 u o v h b;have f:m=[]∨cK m=true:=by rcases u with⟨_,rfl⟩|⟨_,rfl⟩;exact .inr e;exact .inl rfl
  split at b
  ·rename_i t;obtain⟨D,j,rfl⟩:=fH b;obtain⟨G,L,J⟩:=xN C (fun B I d E=>y B I d om) h j;have i:D≠[]:=by
    rw[jV,if_pos t]at j;exact Ko _ _ _ _ _ j
   refine⟨.leaf (.val f o G (.inr i)),?_,om,J⟩;rw[gS,cQ];omega
  ·cases b;rcases u with⟨rfl,rfl⟩|⟨rfl,rfl⟩
   ·exact⟨.leaf (.val f o sm (.inl r)),by rw[nI];omega,v,h⟩
   ·exact⟨.leaf (.loc o),by rw[nI];omega,v,h⟩
 by_cases c:c5 (a.tok p) [58,58]=true
 ·rw[if_pos c]at b;cases q:dh a (p+1)with
  |bad K F=>rw[q]at b;cases b
  |ok H q1=>
   rw[q]at b;obtain⟨A,rfl,z⟩:=qe C f (C.step w c) q;exact g 4 s H _ (.inl ⟨Z,Z⟩) A om z b
 ·rw[if_neg c]at b;exact g 3 [] s p (.inr ⟨Z,Z⟩) e (agl _) w b
def MS{n:Rd}{c:Nat->PR Ex}{lo f:Nat}(k:eX c n lo)(i:List Ex)(p:Nat)(b:List Ex)(e:Nat)(m:lo<=p)(h:p<n.ts.length)(d:(∀x∈i,ej x)/\cQ i+f<=p)(q:oc c i p=.ok b e):((∀x∈b,ej x)/\cQ b+f<=e)/\p<e/\e<n.ts.length:=by
 rw[oc]at q;obtain⟨x,j,rfl⟩:=fH q;obtain⟨l,s,o,g⟩:=k p x e m h j;refine⟨⟨fun r a=>?_,?_⟩,o,g⟩
 ·rcases agN.1 a with a|a
  ·exact d.1 r a
  ·obtain rfl:=agz.1 a;exact l
 ·rw[nH,cQ,cQ];have:=d.2;omega
def MT{l:Rd}(h:l.Wf)(u:l.Nm){q:Nat->PR Ty}{n:Nat->PR Ex}{lo:Nat}(o:Good q l lo)(j:eX n l (lo+1)):eX (gd q n l) l lo:=by
 intro m x C O g b;have j:eX n l (m+1):=j.up om;have o:Good q l m:=fun t w C B=>o t w C om;rw[gd]at b;split at b
 ·exact FT h g b
 ·split at b
  ·rename_i c;cases b;exact⟨.leaf .text,by rw[nI];omega,om,h.go m _ (b0 g) om⟩
  ·split at b
   ·rename_i c;obtain⟨a,y,K,d⟩:=Kp h u (fun t w C B=>o t w C om) ((u m g).1 c) (h.go m _ (b0 g) om) b;exact ND
   ·split at b
    ·rename_i c;cases b;exact⟨.leaf (.bool (b:=true)),by rw[nI];omega,om,h.step g c⟩
    ·split at b
     ·rename_i c;cases b;exact⟨.leaf (.bool (b:=false)),by rw[nI];omega,om,h.step g c⟩
     ·split at b
      ·rename_i c;obtain⟨a,y,K,d⟩:=Bg h u (k:=5) (kids:=[]) dc dc j sm (agl _) (h.step g c) (fun Q v N A=>.Rz v A) b;rw[cQ]at y;exact ND
      ·split at b
       ·rename_i c;cases f:dh l (m+1)with
        |bad z D=>rw[f]at b;cases b
        |ok s q1=>
         rw[f]at b;dsimp only at b;obtain⟨J,rfl,E⟩:=qe h u (h.step g c) f;cases e:fj n l [58] (m+1+1)with
         |bad z D=>rw[e]at b;cases b
         |ok L q2=>
          rw[e]at b;dsimp only at b;obtain⟨a,y,K,d⟩:=mH h j om E e;obtain⟨I,p,rfl⟩:=fH b;obtain⟨rfl,i,_⟩:=kv h d p;exact⟨.one (.inj J) a,by rw[gS];simp only[cy,cQ];omega,om,i⟩
       ·split at b
        ·rename_i c;cases f:q (m+1)with
         |bad z D=>rw[f]at b;cases b
         |ok w q1=>
          rw[f]at b;dsimp only at b;obtain⟨t1,t2,t3,t4⟩:=o (m+1) w q1 om (h.step g c) f;cases e:cu l [[124]] q1 with
          |bad z D=>rw[e]at b;cases b
          |ok I q2=>
           rw[e]at b;dsimp only at b;obtain⟨rfl,i,_⟩:=kv h t4 e;obtain⟨Q,v,rfl⟩:=fH b;obtain⟨⟨H,M⟩,P,G⟩:=v8 (I:=fun a t=>(∀x∈a,ej x)/\cQ a+(q1+1)<=t) h (fun a m C b F=>⟨b.1,Nat.le_trans b.2 F⟩) (MS j) om i ⟨by simp,by rw[cQ];omega⟩ v;exact⟨.mk (.lst t1) H,by rw[gS];simp only[cy];omega,om,G⟩
        ·split at b
         ·rename_i c;cases f:n (m+1)with
          |bad z D=>rw[f]at b;cases b
          |ok L q1=>
           rw[f]at b;dsimp only at b;obtain⟨a,y,K,d⟩:=j (m+1) L q1 om (h.step g c) f;by_cases r:c5 (l.tok q1) [58]=true
           ·rw[if_pos r]at b;cases e:q (q1+1)with
            |bad z D=>rw[e]at b;cases b
            |ok w q2=>
             rw[e]at b;dsimp only[PR.map]at b;obtain⟨t1,t2,t3,t4⟩:=o (q1+1) w q2 om (h.step d r) e;obtain⟨I,p,rfl⟩:=fH b;obtain⟨rfl,i,_⟩:=kv h t4 p;exact⟨.one (.asc t1) a,by rw[gS];simp only[cy,cQ];omega,om,i⟩
           ·rw[if_neg r]at b;dsimp only at b;obtain⟨I,p,rfl⟩:=fH b;obtain⟨rfl,i,_⟩:=kv h d p;exact⟨a,om,om,i⟩
         ·cases b
def MU{e:Rd}(r:e.Wf)(o:e.Nm){g:Nat->PR Ex}{lo:Nat}(y:eX g e lo):∀(q:Nat) (x:Ex) (d a:Nat) (i:Ex) (f:Nat),lo<=d->d<e.ts.length->ej x->cP x+a<=d->a<d->p8 g e q x d=.ok i f->ej i/\cP i+a<=f/\a<f/\f<e.ts.length:=by
 intro q;induction q with
 |zero=>intro x d a i f _ _ _ _ _ b;cases b
 |succ q p=>
  intro x d a i f D h j w t b;rw[p8]at b;split at b
  ·rename_i n;cases c:dh e (d+1)with
   |bad B G=>rw[c]at b;cases b
   |ok s q1=>
    rw[c]at b;dsimp only at b;obtain⟨z,rfl,u⟩:=qe r o (r.step h n) c;exact p _ _ a i f om u (.one (.WO z) j) (by rw[gS];simp only[cy,cQ];omega) om b
  ·split at b
   ·rename_i m;cases c:jP g e [41] 9 [x] (d+1)with
    |bad B G=>rw[c]at b;cases b
    |ok H q1=>
     rw[c]at b;dsimp only at b;obtain⟨A,F,I,E⟩:=Bg r o (k:=9) (kids:=[x]) dc dc y (by simpa using j) om (r.step h m) (fun J v C l=>.call v (by rw[ago,l,agO];omega)) c;simp only[cQ]at F;exact p _ _ a i f om E A om om b
   ·cases b;exact⟨j,w,t,h⟩
def MV{a:Rd}(m:a.Wf)(d:a.Nm){c:Nat->PR Ty}{b:Nat->PR Ex}{lo:Nat}(i:Good c a lo)(e:eX b a (lo+1)):eX (od c b a) a lo:=by
 intro l p r j h g;rw[od]at g;split at g
 ·cases g
 ·rename_i x f k;obtain⟨n,q,s,o⟩:=MT m d i e l x f j h k;exact MU m d e _ x f l p r om o n q s g
def QK{f:Rd}(w:f.Wf){g:Nat->PR Ty}{e:Nat->PR Ex}{lo:Nat}(j:eX (od g e f) f lo):∀i,eX (tP g e f i) f lo:=by
 intro i;induction i with
 |zero=>intro p l q _ _ h;cases h
 |succ i ih=>
  intro p l q k h2 h;rw[tP]at h;split at h
  ·exact YK
  ·split at h
   ·rename_i hk;obtain⟨a,b,c,d⟩:=FT w (w.step h2 hk) h;exact ND
   ·exact j p l q k h2 h
def QL{j:Rd}(w:j.Wf){g:Nat->PR Ty}{f:Nat->PR Ex}{lo:Nat}(k:eX (wX g f j) j lo):∀l,eX (qj g f j l) j lo:=by
 intro l;induction l with
 |zero=>intro p A q _ _ h;cases h
 |succ l ih=>
  intro p A q n h2 h;rw[qj]at h;split at h
  ·exact YK
  ·cases i:wX g f j p with
   |bad B C=>rw[i]at h;cases h
   |ok x q1=>
    rw[i]at h;dsimp only at h;obtain⟨a,b,c,d⟩:=k p x q1 n h2 i;split at h
    ·cases h;exact⟨a,b,c,d⟩
    ·rename_i s t;obtain⟨e,u⟩:=Kn t;obtain⟨v,o,rfl⟩:=fH h;obtain⟨m,z,y,r⟩:=k (q1+1) v q om (w.step d u) o;refine⟨.two (.two ?_) a m,by rw[gS];simp only[cy,cQ];omega,om,r⟩;simp only[agF,List.not_mem_nil,or_false]at e;rcases e with rfl|rfl|rfl<;>simp[BK]
def Uf{b:Rd}(e:b.Wf)(f:b.Nm){d:Nat->PR Ty}{c:Nat->PR Ex}{lo:Nat}(l:Good d b lo)(g:eX c b (lo+1)):eX (Wo d c b) b lo:=by
 have j:=QK e (MV e f l g) b.ts.length;have h:eX (acI d c b) b lo:=wa e (fun n a=>by simp at a;subst a;simp[BK]) j;have m:eX (wX d c b) b lo:=wa e (fun n a=>by simp at a;rcases a with rfl|rfl|rfl<;>simp[BK]) h;have i:=QL e m b.ts.length;have k:eX (acJ d c b) b lo:=wa e (fun n a=>by simp at a;subst a;simp[BK]) i;exact wa e (fun n a=>by simp at a;subst a;simp[BK]) k
def rv{b:Rd}(n:b.Wf){d:Nat->PR Ty}{p g:Nat}{t:Ty}(h:Good d b p)(j:p<b.ts.length)(a:dO d b p=.ok t g):ft t/\ct t+p<=g/\p<g/\g<b.ts.length:=by
 rw[dO]at a;cases e:cu b [[91]] p with
 |bad l m=>rw[e]at a;cases a
 |ok r q1=>
  rw[e]at a;dsimp only at a;obtain⟨rfl,i,_⟩:=kv n j e;cases c:d (p+1)with
  |bad l m=>rw[c]at a;cases a
  |ok t1 q2=>
   rw[c]at a;dsimp only at a;obtain⟨o,s,u,q⟩:=h (p+1) t1 q2 om i c;cases f:cu b [[93]] q2 with
   |bad l m=>rw[f]at a;cases a
   |ok r q3=>
    rw[f]at a;cases a;obtain⟨rfl,k,_⟩:=kv n q f;exact⟨o,om,om,k⟩
def QM{c:Rd}(n:c.Wf)(l:c.Nm){b:Nat->PR Ex}{lo:Nat}(f:eX b c lo):eX (xI b c) c lo:=by
 intro o z B u g a;rw[xI]at a;cases e:dh c o with
 |bad t w=>rw[e]at a;cases a
 |ok s q1=>
  rw[e]at a;dsimp only at a;obtain⟨m,rfl,h⟩:=qe n l g e;cases d:fj b c [61] (o+1)with
  |bad t w=>rw[d]at a;cases a
  |ok x q2=>
   rw[d]at a;dsimp only at a;obtain⟨q,A,C,v⟩:=mH n f om h d;obtain⟨y,j,rfl⟩:=fH a;obtain⟨i,r,p,k⟩:=mH n f om v j;exact⟨.two (.WQ m) q i,by rw[gS];simp only[cy,cQ];omega,om,k⟩
def MW{c:Rd}(o:c.Wf){e:Nat->PR Ty}{b:Nat->PR Ex}{lo:Nat}(j:Good e c lo)(h:eX b c lo):eX (oT e b c) c lo:=by
 intro y F r w i a;rw[oT]at a;cases f:dO e c y with
 |bad p t=>rw[f]at a;cases a
 |ok s q1=>
  rw[f]at a;dsimp only at a;obtain⟨t1,t2,t3,t4⟩:=rv o (fun n s r q=>j n s r om) i f;cases d:b q1 with
  |bad p t=>rw[d]at a;cases a
  |ok x q2=>
   rw[d]at a;dsimp only at a;obtain⟨u,G,H,z⟩:=h q1 x q2 om t4 d;cases g:fj b c [116,104,101,110] q2 with
   |bad p t=>rw[g]at a;cases a
   |ok D q3=>
    rw[g]at a;dsimp only at a;obtain⟨m,C,A,d2⟩:=mH o h om z g;obtain⟨E,l,rfl⟩:=fH a;obtain⟨k,v,B,d3⟩:=mH o h om d2 l;exact⟨.three (.cond t1) u m k,by rw[gS];simp only[cy,cQ];omega,om,d3⟩
def Kq{b:Rd}(j:b.Wf)(p:b.Nm){e:Nat->PR Ty}{c:Nat->PR Ex}{lo:Nat}(l:Good e b lo)(i:eX c b lo):eX (mz e c b) b lo:=by
 intro A D t z k a;rw[mz]at a;cases g:dO e b A with
 |bad r v=>rw[g]at a;cases a
 |ok u q1=>
  rw[g]at a;dsimp only at a;obtain⟨t1,t2,t3,t4⟩:=rv j (fun q u t s=>l q u t om) k g;cases d:c q1 with
  |bad r v=>rw[d]at a;cases a
  |ok x q2=>
   rw[d]at a;dsimp only at a;obtain⟨y,E,H,B⟩:=i q1 x q2 om t4 d;cases h:cu b [[123]] q2 with
   |bad r v=>rw[h]at a;cases a
   |ok G q3=>
    rw[h]at a;dsimp only at a;obtain⟨rfl,m,_⟩:=kv j B h;obtain⟨I,n,rfl⟩:=fH a;obtain⟨⟨f,w⟩,C,o⟩:=v8 (I:=PI 13 (q2+1)) j PI.mono (MQ j p i) om m ⟨sY.nil 13,by rw[ot];omega⟩ n;refine⟨.mk (.mat t1 (Ax f) ?_) (Aw f (by simpa using y)),?_,om,o⟩
    ·rw[ago,DD f,if_neg dc,agO];omega
    ·rw[xQ];simp only[cy,cQ];omega
def MX{b:Rd}(l:b.Wf)(n:b.Nm){g:Nat->PR Ty}{c:Nat->PR Ex}{lo:Nat}(r:Good g b lo)(j:eX c b lo):eX (lQ g c b) b lo:=by
 intro K S E J p a;rw[lQ]at a;cases h:dO g b K with
 |bad m o=>rw[h]at a;cases a
 |ok F q1=>
  rw[h]at a;dsimp only at a;obtain⟨t1,t2,t3,t4⟩:=rv l (fun C F E D=>r C F E om) p h;cases f:dh b q1 with
  |bad m o=>rw[f]at a;cases a
  |ok s q2=>
   rw[f]at a;dsimp only at a;obtain⟨B,rfl,t⟩:=qe l n t4 f;cases i:cu b [[44]] (q1+1)with
   |bad m o=>rw[i]at a;cases a
   |ok U q3=>
    rw[i]at a;dsimp only at a;obtain⟨rfl,u,_⟩:=kv l t i;cases k:dh b (q1+1+1)with
    |bad m o=>rw[k]at a;cases a
    |ok R q4=>
     rw[k]at a;dsimp only at a;obtain⟨z,rfl,q⟩:=qe l n u k;cases d:fj c b [105,110] (q1+1+1+1)with
     |bad m o=>rw[d]at a;cases a
     |ok x w=>
      rw[d]at a;dsimp only at a;obtain⟨G,T,V,L⟩:=mH l j om q d;cases e:fj c b [102,114,111,109] w with
      |bad m o=>rw[e]at a;cases a
      |ok P I=>
       rw[e]at a;dsimp only at a;obtain⟨A,O,M,d2⟩:=mH l j om L e;obtain⟨Q,y,rfl⟩:=fH a;obtain⟨v,H,N,d3⟩:=mH l j om d2 y;exact⟨.three (.fold t1 B z) G A v,by rw[gS];simp only[cy,cQ];omega,om,d3⟩
def MY{c:Rd}(m:c.Wf)(t:c.Nm){f:Nat->PR Ty}{d:Nat->PR Ex}{lo:Nat}(p:Good f c lo)(i:eX d c lo):eX (funcF f d c) c lo:=by
 intro l F D A o b;rw[funcF]at b;cases h:cu c [[40]] l with
 |bad z E=>rw[h]at b;cases b
 |ok I q1=>
  rw[h]at b;dsimp only at b;obtain⟨rfl,q,_⟩:=kv m o h;cases e:gA (jW f d c) c [41] [] (l+1)with
  |bad z E=>rw[e]at b;cases b
  |ok u q2=>
   rw[e]at b;dsimp only at b;obtain⟨⟨g,w⟩,C,r⟩:=v8 (I:=PI 8 (l+1)) m PI.mono (MR m t p i) om q ⟨sY.nil 8,by rw[ot];omega⟩ e;obtain⟨x,s,rfl⟩:=fH b;obtain⟨y,G,J,B⟩:=mH m i om r s;have j:=xQ (k:=8) (n:=[]) (types:=[]) (kids:=[]) (l:=u);rw[kq,cP]at j;refine⟨.mk (.func (Ax g) ?_) ?_,?_,om,B⟩
   ·rw[agG,ago,DD g,if_pos rfl,agO]
   ·intro v a;rcases agN.1 a with a|a
    ·exact Aw (n:=[]) (types:=[]) (kids:=[]) g sm v a
    ·obtain rfl:=agz.1 a;exact y
   ·show cP (.mk 8 [] [] [] 0 [] _ (_++[x]))+l<=D;rw[cP,nH];simp only[cQ,cy]at j⊢;omega
def zx{f:Rd}(n:f.Wf)(g:f.Nm):∀(q i:Nat),eX (Ih f q) f i:=by
 intro q;induction q with
 |zero=>intro i j o m _ _ e;cases e
 |succ q h=>
  intro i j o m u p e;have k:∀i,Good (b8 f f.ts.length) f i:=fun i j v m _=>pt n g f.ts.length j v m (agr _);have l:∀{fn:Nat->PR Ex},eX fn f 0->j+1<f.ts.length->fn (j+1)=.ok o m->ej o/\cP o+j<=m/\j<m/\m<f.ts.length:=fun r s t=>by
   obtain⟨a,w,x,d⟩:=r (j+1) o m (agr _) s t;exact ND
  rw[Ih,ET]at e;have c:(f.tok j).kind=5->j+1<f.ts.length:=fun b=>n.go j _ (b0 p) om;split at e
  ·rename_i b;exact l (QM n g (h 0)) (c b.1) e
  ·split at e
   ·rename_i b;exact l (MW n (k 0) (h 0)) (c b.1) e
   ·split at e
    ·rename_i b;exact l (Kq n g (k 0) (h 0)) (c b.1) e
    ·split at e
     ·rename_i b;exact l (MX n g (k 0) (h 0)) (c b.1) e
     ·split at e
      ·rename_i b;exact l (MY n g (k 0) (h 0)) (c b.1) e
      ·exact Uf n g (k 0) (h 1) j o m (agr _) p e
def sZ(c:UInt8){σ:VS}{a:cO->VS->Prop}(hk:a (.ret (b6 (k9 c))) σ):b4 C ca uM [io c] σ a:=by
 exact YM
def vl(c:UInt8){σ:VS}{a:cO->VS->Prop}(hk:a (.ret (b6 (iT c))) σ):b4 C ca sG [io c] σ a:=by
 exact YJ
def s0(c:UInt8){σ:VS}{a:cO->VS->Prop}(hk:a (.ret (b6 (isDigit c))) σ):b4 C ca uL [io c] σ a:=by
 exact YL
def Kr(c:UInt8){σ:VS}{a:cO->VS->Prop}(hk:a (.ret (b6 (isWord c))) σ):b4 C ca wu [io c] σ a:=by
 refine cj ?_;refine sZ c ?_;apply aZ<;>intro h1
 ·exact aeL
 ·refine a7 h1 (vl c ?_);refine a7 h1 ?_;apply aZ<;>intro h2
  ·exact acr
  ·refine a7 h2 (s0 c ?_);exact YB
def H2(c:UInt8):Int:=match wC c with
 |some n=>agj n
 |none=> -1
def uQ(c:UInt8){σ:VS}{h:cO->VS->Prop}(d:h (.ret (.d (.int .i64 (H2 c)))) σ):b4 C ca DS [io c] σ h:=by
 refine cj ?_;refine s0 c ?_;apply aZ<;>intro f
 ·refine n9 ?_ d;have i:=JG f;simp only[H2,wC,f,if_pos];rw[Ob (by simp only[agp];omega) (by simp only[agp];omega),wrap64 (by simp only[agp];omega) (by simp only[agp];omega)];simp only[agp];omega
 ·apply aZ<;>intro e
  ·have b:97<=c.toNat:=JA (a:=97) e;repeat refine cg e ?_
   apply aZ<;>intro g
   ·have a:c.toNat<=102:=JA (b:=102) g;refine n9 ?_ d;simp only[H2,wC,f,decide_eq_true b,decide_eq_true a,Bool.and_self,if_pos];rw[Ob (n:=agj c.toNat-97) (by simp only[agp];omega) (by simp only[agp];omega)];rw[wrap64 (n:=agj c.toNat-97) (by simp only[agp];omega) (by simp only[agp];omega)];rw[wrap64 (by simp only[agp];omega) (by simp only[agp];omega)];simp only[agp,agn,if_false];omega
   ·have a:¬c.toNat<=102:=Nat.not_le_of_lt (Iv (b:=102) g);refine n9 ?_ d;simp only[H2,wC,f,decide_eq_false a,agT,agn,if_false]
  ·have b:¬97<=c.toNat:=Nat.not_le_of_lt (Iv (a:=97) e);repeat refine a7 e ?_
   refine n9 ?_ d;simp only[H2,wC,f,decide_eq_false b,agS,agn,if_false]
def zy(s:cq)(c:s.length<4294967296){σ:VS}{b:cO->VS->Prop}(hk:b (.ret (b6 (s.all isWord))) σ):b4 C ca uR [cn s] σ b:=by
 refine cj ?_;refine cD (dB:=[(3,b5 0),(0,cn s)]) ?_;refine cd.iter (fun i:Nat=>[(3,b5 i),(0,cn s)]) (fun _=>σ) (fun i=>s.length-i) (fun i=>i<=s.length/\(s.take i).all isWord=true) ?_ 0 ⟨om,by simp⟩;rintro i ⟨d,hp⟩;apply aZ<;>intro h
 ·have h:i<s.length:=ee h;have hgi:s[i]?=some s[i]:=ags h;refine bZ Z (cc s[i] (by rw[ck];exact hgi) ?_);refine Kr s[i] ?_;apply aZ<;>intro h2
  ·exact acm
  ·refine⟨i+1,⟨om,?_⟩,om,.eS,Z,Z⟩;exact Zx
 ·have h:s.length<=i:=dq h;refine eL ?_ hk;rw[agD om]at hp;exact hp.symm
def kwL:List cq:=[[97,110,100],[97,110,121],[97,115],[98,111,111,108],[100,101,112,114,101,99,97,116,101,100],[101,108,115,101],[101,120,112,111,114,116],[102,97,108,115,101],[102,110],[102,111,108,100],[102,114,111,109],[105,102],[105,109,112,111,114,116],[105,110],[105,110,116],[108,101,110,103,116,104],[108,101,116],[108,105,115,116],[109,97,116,99,104],[109,111,100,117,108,101],[110,111,110,101],[110,111,116],[111,114],[116,101,120,116],[116,104,101,110],[116,114,117,101],[116,121,112,101],[117,115,101]]
def DE(l:List cq):List cH:=l.map fun a=>[.str a]
def aee:Nat->Bool:=fun a=>agv a 1
def BL{σ:VS}{c:cO->VS->Prop}(a:∀b,c (.ret (.d (.ps b 0 1 28 (DE kwL)))) σ):b4 C ca rY [] σ c:=by
 refine b4.body aee (fun _=>Z) ?_;intro b;exact a b
theorem DF(l:List cq)(n:l.length<4294967296)(i:cq)(b d:Nat){σ:VS}{m:cO->VS->Prop}(e:m (.ret (b6 (decide (i∈l)))) σ):b4 C ca xG [.d (.ps b 0 1 d (DE l)),cn i] σ m:=by
 refine cj ?_;have g:(DE l).length=l.length:=by simp[DE]
 refine cD (dB:=[(5,b5 0),(0,.d (.ps b 0 1 d (DE l))),(1,cn i)]) ?_;refine cd.iter (fun a:Nat=>[(5,b5 a),(0,.d (.ps b 0 1 d (DE l))),(1,cn i)]) (fun _=>σ) (fun a=>l.length-a) (fun a=>a<=l.length/\i ∉ l.take a) ?_ 0 ⟨om,by simp⟩;rintro a ⟨p,h⟩;apply aZ<;>intro j
 ·have j:a<l.length:=g▸ee j;have f:l[a]?=some l[a]:=ags j;refine bZ Z (cc [.str l[a]] (by rw[ck,DE,agL,f];rfl) ?_);apply aZ<;>intro c
  ·have c:l[a]=i:=of_decide_eq_true c;rw[decide_eq_true (c▸agu j)]at e;exact e
  ·have c:l[a]≠i:=of_decide_eq_false c;refine⟨a+1,⟨om,?_⟩,om,.eS,Z,Z⟩;rw[agQ,f];simp only[agV,agN,agz,not_or];exact⟨h,fun o=>c o.symm⟩
 ·have j:l.length<=a:=g▸dq j;rw[agD j]at h;rw[decide_eq_false h]at e;exact e
def kwT:List cq->cq
 |[]=>[32]
 |w::a=>32::(w++kwT a)
def Az(a b:cq):pK a b=a.isPrefixOf b:=by
 induction a generalizing b with
 |nil=>cases b<;>rfl
 |cons x a d=>
  cases b with
  |nil=>rfl
  |cons c b=>
   simp only[pK,agx,d];rw[show(x==c)=agv x.toNat c.toNat from by rw[Bool.eq_iff_iff];simp only[beq_iff_eq,Nat.beq_eq];exact UInt8.toNat_inj.symm];cases agv x.toNat c.toNat<;>rfl
def Ug{s a b:cq}(e:32 ∉ s)(d:32 ∉ a):(s++[32]).isPrefixOf (a++32::b)=decide (s=a):=by
 induction s generalizing a with
 |nil=>
  cases a with
  |nil=>simp[agx]
  |cons f a=>
   simp only[agG,agA,agx,agM];have:f≠32:=fun c=>d (by simp[c]);simp[this.symm]
 |cons x s g=>
  cases a with
  |nil=>
   simp only[agA,agG,agx];have:x≠32:=fun c=>e (by simp[c]);simp[this]
  |cons f a=>
   simp only[agA,agx];rw[g (fun h=>e (by simp[h])) (fun h=>d (by simp[h]))];by_cases c:x=f
   ·subst c;simp
   ·simp[c]
def Uh{p c a:cq}(b:32 ∉ c)(e:∃d,p=32::d):mQ p (c++a)=mQ p a:=by
 induction c with
 |nil=>rfl
 |cons i c f=>
  obtain⟨d,rfl⟩:=e;have g:i≠32:=fun k=>b (by simp[k]);have h:pK (32::d) (i::(c++a))=false:=by
   rw[Az,agx];simp[g.symm]
  simp only[agA,mQ,h];exact f (fun j=>b (by simp[j]))
def Ui(a:List cq):∃b,kwT a=32::b:=by
 cases a with
 |nil=>exact⟨_,rfl⟩
 |cons c a=>exact⟨_,rfl⟩
def QN(s:cq)(i:32 ∉ s):∀a:List cq,(∀b∈a,32 ∉ b)->mQ (32::(s++[32])) (kwT a)=decide (s∈a):=by
 intro a;induction a with
 |nil=>
  intro _;have h:pK (32::(s++[32])) [32]=false:=by
   rw[Az];cases s<;>simp[agx]
  simp only[kwT,mQ,h];simp
 |cons b a d=>
  intro c;obtain⟨k,g⟩:=Ui a;have e:pK (32::(s++[32])) (32::(b++kwT a))=decide (s=b):=by
   rw[Az,agx,g,Ug i (c b sm)];simp
  have d:=d (fun b j=>c b (by simp[j]));simp only[kwT,mQ,e];by_cases f:s=b
  ·simp[f]
  ·simp only[decide_eq_false f];rw[Uh (c b sm) ⟨_,rfl⟩,d];simp[f]
def Uj{a:cq}(c:a.all isWord=true):Tg a=decide (a∈kwL):=by
 have b:32 ∉ a:=fun d=>by
  have:=List.all_eq_true.1 c 32 d;revert this;decide
 have e:B1=kwT kwL:=rfl;unfold Tg;rw[e];exact QN a b kwL dc
def eU(s:cq)(e:s.length<4294967296){σ:VS}{d:cO->VS->Prop}(hk:d (.ret (b6 (cK s))) σ):b4 C ca tL [cn s] σ d:=by
 refine cj ?_;apply aZ<;>intro h1
 ·repeat refine cg h1 ?_
  cases s with
  |nil=>simp at h1
  |cons c r=>
   apply aZ<;>intro h2
   ·have Ie:(c::r).length<=32:=JA h2;refine cg h2 (bZ Z (cc c Z ?_));refine cg h2 (sZ c ?_);refine cg h2 ?_;apply aZ<;>intro h3
    ·refine cg h3 (zy (c::r) om ?_);refine cg h3 ?_;apply aZ<;>intro h4
     ·have b:(c::r).all isWord=true:=h4;refine BL (fun f=>?_);repeat refine cg h4 ?_
      refine DF kwL dc (c::r) f 28 ?_;rw[<-Uj b];repeat refine cg h4 ?_
      exact Zv
     ·exact acb
    ·exact acs
   ·exact Y0
 ·exact Zp
def fD(s:cq)(d:s.length<4294967296){σ:VS}{b:cO->VS->Prop}(hk:b (.ret (b6 (dX s))) σ):b4 C ca tM [cn s] σ b:=by
 refine cj ?_;apply aZ<;>intro h1
 ·repeat refine cg h1 ?_
  cases s with
  |nil=>simp at h1
  |cons c r=>
   apply aZ<;>intro h2
   ·have Ie:(c::r).length<=32:=JA h2;refine cg h2 (bZ Z (cc c Z ?_));refine cg h2 (vl c ?_);refine cg h2 ?_;apply aZ<;>intro h3
    ·refine cg h3 (zy (c::r) om ?_);exact ab0
    ·exact aco
   ·exact Y1
 ·exact Zp
theorem E1{p:UInt8->Bool}{a:cq}{b:Nat}(j:b<=a.length)(c:(a.take b).all p=true)(f:∀(h:b<a.length),p a[b]=false):et p a=b:=by
 unfold et;have i:a=a.take b++a.drop b:=(List.take_append_drop b a).symm;have e:a.takeWhile p=a.take b:=by
  conv=>lhs;rw[i]
  rw[List.takeWhile_append_of_pos (fun g d=>List.all_eq_true.1 c g d)];have:(a.drop b).takeWhile p=[]:=by
   rcases Nat.lt_or_ge b a.length with h|h
   ·rw[List.drop_eq_getElem_cons h,List.takeWhile_cons,f h];rfl
   ·rw[List.drop_of_length_le h];rfl
  rw[this,List.append_nil]
 rw[e,List.length_take];omega
def H9{p:UInt8->Bool}{a:cq}{b:Nat}(e:b<a.length)(c:(a.take b).all p=true)(d:p a[b]=true):(a.take (b+1)).all p=true:=by
 rw[agQ,ags e];simp only[List.all_append,c,agV,List.all_cons,List.all_nil,agM,agX,d]
def KU(s:cq)(d:s.length<4294967296){σ:VS}{c:cO->VS->Prop}(hk:c (.ret (b5 (et isDigit s))) σ):b4 C ca p4 [cn s,b6 true] σ c:=by
 refine cj ?_;refine cD (dB:=[(5,b5 0),(0,cn s),(1,b6 true)]) ?_;refine cd.iter (fun i:Nat=>[(5,b5 i),(0,cn s),(1,b6 true)]) (fun _=>σ) (fun i=>s.length-i) (fun i=>i<=s.length/\(s.take i).all isDigit=true) ?_ 0 ⟨om,by simp⟩;rintro i ⟨hi,hp⟩;apply aZ<;>intro hc
 ·have h:i<s.length:=ee hc;repeat refine cg hc ?_
  refine bZ Z (cc s[i] (by rw[ck];exact ags h) ?_);repeat refine cg hc ?_
  refine s0 s[i] ?_;repeat refine cg hc ?_
  apply aZ<;>intro a
  ·repeat first|refine cg a ?_|refine cg hc ?_
   exact⟨i+1,⟨om,H9 h hp a⟩,om,.eS,Z,Z⟩
  ·repeat first|refine a7 a ?_|refine cg hc ?_
   refine n9 ?_ hk;rw[E1 hi hp (fun _=>a)]
 ·exact Nu
def Xx{c:UInt8}(a:isDigit c=true):isWord c=true:=by simp[isWord,a]
def D4(s:cq)(e:s.length<4294967296){σ:VS}{d:cO->VS->Prop}(hk:d (.ret (b5 (et isWord s))) σ):b4 C ca p4 [cn s,b6 false] σ d:=by
 refine cj ?_;refine cD (dB:=[(5,b5 0),(0,cn s),(1,b6 false)]) ?_;refine cd.iter (fun i:Nat=>[(5,b5 i),(0,cn s),(1,b6 false)]) (fun _=>σ) (fun i=>s.length-i) (fun i=>i<=s.length/\(s.take i).all isWord=true) ?_ 0 ⟨om,by simp⟩;rintro i ⟨hi,hp⟩;apply aZ<;>intro hc
 ·have h:i<s.length:=ee hc;repeat refine cg hc ?_
  refine bZ Z (cc s[i] (by rw[ck];exact ags h) ?_);repeat refine cg hc ?_
  refine s0 s[i] ?_;repeat refine cg hc ?_
  apply aZ<;>intro a
  ·repeat first|refine cg a ?_|refine cg hc ?_
   exact⟨i+1,⟨om,H9 h hp (Xx a)⟩,om,.eS,Z,Z⟩
  ·repeat first|refine a7 a ?_|refine cg hc ?_
   refine bZ Z (cc s[i] (by rw[ck];exact ags h) ?_);repeat first|refine a7 a ?_|refine cg hc ?_
   refine Kr s[i] ?_;repeat first|refine a7 a ?_|refine cg hc ?_
   apply aZ<;>intro b
   ·repeat first|refine a7 a ?_|refine cg hc ?_|refine cg b ?_
    exact⟨i+1,⟨om,H9 h hp b⟩,om,.eS,Z,Z⟩
   ·repeat first|refine a7 a ?_|refine cg hc ?_|refine a7 b ?_
    refine n9 ?_ hk;rw[E1 hi hp (fun _=>b)]
 ·exact Nu
end Go.Proofs.YtpejealjkmhkgaaGreatDoor
