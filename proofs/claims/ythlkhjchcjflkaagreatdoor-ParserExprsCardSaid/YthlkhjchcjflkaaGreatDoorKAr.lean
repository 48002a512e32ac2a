/- Part of the proof. -/
import Derived.Test.YthlkhjchcjflkaaGreatDoorKAq
set_option linter.all false
set_option maxHeartbeats 16000000
set_option maxRecDepth 100000
open List renaming getElem?_eq_getElem->Yl,take_of_length_le->Ym,getElem_mem->Yq,take_add_one->Ys,length_cons->Yu,length_append->Yv,cons_append->Yw,length_take->Yy,eq_nil_of_length_eq_zero->Yz,append_nil->YA,mem_cons->YB,take_append_drop->YD,map->YH
open Nat renaming le_of_ble_eq_true->Yn,le_refl->Yo,zero_le->Yr,le_add_right->Yx,le_trans->YC
open Int renaming ofNat->Yp,ofNat_eq_natCast->Yt
open Bool renaming true_or->YE
open And renaming intro->YF
open Option renaming toList_some->YG
namespace Go.Proofs.YthlkhjchcjflkaaGreatDoor
open Go.AM Go.VM
theorem JM(t:Ty)(c:List D)(b:hU t c)(d:nS t)(f:di t<4294967296){σ:VS}{K:cZ->VS->Prop}(e:K (.ret (b6 (pb (jl t)))) σ):b3 C cn ll [.agg (c.map V.d)] σ K:=by
 have h:=Hm t c b d f;obtain⟨k,l,i,n,j,rfl⟩:=b.eG;exact cN h Z Z e
theorem Hn(n:Nat)(Y:∀(t:Ty) (B:List D),di t<=n->hU t B->j4 t->∀{S:VS} {a:cZ->VS->Prop},a (.ret (b6 (pb (qf t)))) S->b3 C cn iQ [.agg (B.map V.d)] S a) 
  (t:Ty) (B:List D) (P:di t<=n+1) (I:n<4294967295) (x:hU t B) (K:j4 t):b3 C cn iQ [.agg (B.map V.d)] [] fun w R=>R=[]/\w=.ret (b6 (pb (qf t))):=by
 obtain⟨F,G,W,z,E,rfl⟩:=x.eG;have r:=gl t;cases K with
 |mk K j=>
 refine cB ?_;refine JM t _ x K om ?_;rw[vw];cases A:jl t with
 |true=>
  refine a6 0 ⟨Z,Z⟩
 |false=>
  rw[Bool.false_or];refine to t _ x om (fun B Q=>?_);have O:cL (eL t)<=n:=om;generalize eL t=b at Q O j;have g:=fu b;cases Q with
  |nil=>
   refine b5.loop ?_;refine a6 0 ⟨Z,Z⟩
  |ps T=>
   rename_i u m o p;have k:=T.len;refine b5.less (eh:=[(4,.d (.ps u m 5 o p)),(5,b6 0)]) ⟨Z,Z,tv⟩ ?_;refine b5.iter (fun c:Nat=>[(4,.d (.ps u m 5 o p)),(5,b6 c)]) (fun _=>[.box (rK F G W z E)]) (fun c=>b.length-c) (fun c=>c<=b.length/\∀f (h:f<b.length),f<c->qf b[f]=false) ?_ 0 ⟨Yr _,fun f _ T=>absurd T (Nat.not_lt_zero _)⟩;rintro c ⟨H,i⟩;apply aZ<;>intro U
   ·have e:c<b.length:=k▸fq U;obtain⟨B,X,s⟩:=T.get e;refine bZ Z ?_;obtain⟨J,y,q,L,f2,rfl⟩:=s.eG;refine b7 _ (by rw[cz];exact X) ?_;have d:b[c]∈b:=Yq e;have v:=gG d;refine Y b[c] _ om s (j _ d) ?_;cases l:qf b[c]with
    |true=>
     rw[A0 d l];refine a6 0 ⟨Z,Z⟩
    |false=>
     refine⟨c+1,⟨e,fun f h T=>?_⟩,by show b.length-(c+1)<b.length-c;omega,.drop 1 ⟨rfl,int_eq (cq om),tv⟩ rfl rfl rfl rfl rfl rfl rfl,rfl,rfl⟩;rcases Nat.lt_or_ge f c with h1|h1
     ·exact i f h h1
     ·obtain rfl:f=c:=om;exact l
   ·have e:b.length<=c:=k▸dM U;have N:nR b=false:=tp.2 fun t P=>by
     obtain⟨f,h,rfl⟩:=List.getElem_of_mem P;exact i f h om
    rw[N];refine a6 0 ⟨Z,Z⟩
theorem JN:∀(e:Nat) (b:Ty) (c:List D),e<4294967295->di b<=e->hU b c->j4 b->∀{d:VS} {h:cZ->VS->Prop},h (.ret (b6 (pb (qf b)))) d->b3 C cn iQ [.agg (c.map V.d)] d h:=by
 intro e;induction e with
 |zero=>intro b c _ s;have:=kq b;omega
 |succ e p=>
  intro b c x s f n d h k;have j:=Hn e (fun b c l i o=>p b c om l i o) b c s om f n;obtain⟨N,O,t,B,K,rfl⟩:=f.eG;exact cN j Z Z k
theorem EX(t:Ty)(n:List D)(b:hU t n)(l:j4 t)(e:di t<4294967295):b3 C cn kH [.agg (n.map V.d)] [] fun o j=>j=[]/\o=.ret (b6 (pb (pk t))):=by
 obtain⟨x,B,p,k,s,rfl⟩:=b.eG;refine cB ?_;refine AV _ t _ e (Yo _) b ?_;apply aZ<;>intro h
 ·have d:=fq (a:=4096) h;repeat refine e4 ?_
  refine a6 0 ⟨Z,by rw[pk,decide_eq_true d,YE,YE];rfl⟩
 ·have d:=dM (a:=4096) h;repeat refine e4 ?_
  refine Hk _ t _ e (Yo _) b ?_;repeat refine e4 ?_
  apply aZ<;>intro f
  ·have c:=fq (a:=32) f;repeat refine e4 ?_
   refine a6 0 ⟨Z,by rw[pk,decide_eq_true c,Bool.or_true,YE];rfl⟩
  ·have c:=dM (a:=32) f;repeat refine e4 ?_
   have i:pk t=qf t:=by rw[pk,decide_eq_false om,decide_eq_false om];rfl
   rw[i];refine JN _ t _ e (Yo _) b l ?_;refine a6 0 ⟨Z,Z⟩
theorem Ho(t:Ty)(c:List D)(b:hU t c)(d:j4 t)(h:di t<4294967295){σ:VS}{K:cZ->VS->Prop}(e:K (.ret (b6 (pb (pk t)))) σ):b3 C cn kH [.agg (c.map V.d)] σ K:=by
 have f:=EX t c b d h;obtain⟨k,l,i,n,j,rfl⟩:=b.eG;exact cN f Z Z e
structure iB where
 n:List UInt8
 v:List UInt8
 ty:Ty
 oa:Bool
inductive Ex where
 |mk (k:Nat) (m n x:List UInt8) (num:Int) (types:List Ty) (labels:List iB) (kids:List Ex)
def Cw(l:iB)(b:List D):List D:=.str l.n:: .str l.v::(b++[.bool l.oa])
inductive l2:List iB->List (List D)->Prop
 |nil:l2 [] []
 |cons {l:iB} {d:List D} {ls:List iB} {els:List (List D)} (h:hU l.ty d) (hl:l2 ls els):l2 (l::ls) (Cw l d::els)
inductive eV:List iB->D->Prop
 |nil:eV [] .cC
 |ps {b o cap:Nat} {l:List iB} {els:List (List D)} (h:l2 l els):eV l (.ps b o 8 cap els)
mutual
inductive hY:Ex->List D->Prop
 |mk {k:Nat} {m n x:List UInt8} {num:Int} {types:List Ty} {labels:List iB} {kids:List Ex} {ty lb kd:D} (ht:fK types ty) (hl:eV labels lb) (hk:fM kids kd):
   hY (.mk k m n x num types labels kids) [.int .i64 (Yp k),.str m,.str n,.str x,.int .i64 num,ty,lb,kd]
inductive fM:List Ex->D->Prop
 |nil:fM [] .cC
 |ps {b o cap:Nat} {l:List Ex} {els:List (List D)} (h:hh l els):fM l (.ps b o 8 cap els)
inductive hh:List Ex->List (List D)->Prop
 |nil:hh [] []
 |cons {e:Ex} {d:List D} {l:List Ex} {els:List (List D)} (h:hY e d) (hl:hh l els):hh (e::l) (d::els)
end
variable{u:List D} {M w:Ex} {a y:List (List D)}
theorem hh.snoc{l:List Ex}(f:hh l a)(b:hY w u):hh (l++[w]) (a++[u]):=by
 induction l generalizing a with
 |nil=>cases f;exact .cons b .nil
 |cons h l c=>cases f with|cons e d=>exact .cons e (c d)
theorem hh.KY{l b:List Ex}(h:hh l a)(c:hh b y):hh (l++b) (a++y):=by
 induction l generalizing a with
 |nil=>cases h;exact c
 |cons i l d=>cases h with|cons f e=>exact .cons f (d e)
theorem hh.len{l:List Ex}(d:hh l a):a.length=l.length:=by
 induction l generalizing a with
 |nil=>cases d;rfl
 |cons f l b=>cases d with|cons e c=>simp[b c]
theorem l2.snoc{l:List iB}{f:iB}(h:l2 l a)(b:hU f.ty u):l2 (l++[f]) (a++[Cw f u]):=by
 induction l generalizing a with
 |nil=>cases h;exact .cons b .nil
 |cons x l c=>cases h with|cons e d=>exact .cons e (c d)
theorem l2.len{l:List iB}(d:l2 l a):a.length=l.length:=by
 induction l generalizing a with
 |nil=>cases d;rfl
 |cons f l b=>cases d with|cons e c=>simp[b c]
variable{g r v:D}
theorem eV.inv{l:List iB}(c:eV l g):(l=[]/\g=.cC)∨∃d f e b,g=.ps d f 8 e b/\l2 l b:=by
 cases c with
 |nil=>exact .inl ⟨rfl,rfl⟩
 |ps c=>exact .inr ⟨_,_,_,_,rfl,c⟩
theorem fM.inv{l:List Ex}(c:fM l g):(l=[]/\g=.cC)∨∃d f e b,g=.ps d f 8 e b/\hh l b:=by
 cases c with
 |nil=>exact .inl ⟨rfl,rfl⟩
 |ps c=>exact .inr ⟨_,_,_,_,rfl,c⟩
theorem hY.eight(i:hY w u):∃j k h f b d e c,u=[.int .i64 (Yp j),.str k,.str h,.str f,.int .i64 b,d,e,c]:=by
 cases i with|mk _ _ _=>exact⟨_,_,_,_,_,_,_,_,rfl⟩
structure cV where
 n:List UInt8
 v:List UInt8
 ty:Ty
 oa:Bool
 val:List Ex
def cV.pc(p:cV):iB:=⟨p.n,p.v,p.ty,p.oa⟩
inductive kr:List cV->List FE->Prop
 |nil:kr [] []
 |cons {p:cV} {x:FE} {l:List cV} {xs:List FE} (hn:p.n=x.n) (hv:p.v=x.v) (ho:p.oa=x.o) (ht:hU p.ty x.ty) (hw:fM p.val x.w) (hl:kr l xs):kr (p::l) (x::xs)
theorem kr.snoc{l:List cV}{xs:List FE}{p:cV}{x:FE}(t:kr l xs)(s:p.n=x.n)(e:p.v=x.v)(d:p.oa=x.o)(n:hU p.ty x.ty)(b:fM p.val x.w):kr (l++[p]) (xs++[x]):=by
 induction l generalizing xs with
 |nil=>cases t;exact .cons s e d n b .nil
 |cons B l f=>cases t with|cons j h o i k c=>exact .cons j h o i k (f c)
theorem kr.names{l:List cV}{xs:List FE}(e:kr l xs):xs.map FE.n=l.map cV.n:=by
 induction l generalizing xs with
 |nil=>cases e;rfl
 |cons k l c=>cases e with|cons d f j h i b=>simp[c b,d]
theorem kr.len{l:List cV}{xs:List FE}(b:kr l xs):xs.length=l.length:=by
 have:=congrArg List.length b.names;simpa using this
theorem kr.ins{l:List cV}{xs:List FE}{p:cV}{x:FE}(t:kr l xs)(c:p.n=x.n)(h:p.v=x.v)(f:p.oa=x.o)(n:hU p.ty x.ty)(d:fM p.val x.w):kr (jk cV.n p l) (jk FE.n x xs):=by
 induction l generalizing xs with
 |nil=>cases t;exact .cons c h f n d .nil
 |cons B l s=>
  cases t with
  |cons b i o j k e=>
   simp only[jk];rw[c,b];split
   ·exact .cons b i o j k (s e)
   ·exact .cons c h f n d (.cons b i o j k e)
theorem kr.G7:∀{e:List cV} {b:List FE},kr e b->kr (ct cV.n e) (ct FE.n b):=by
 have f:∀(e:List cV) (b:List FE) (j:List cV) (i:List FE),kr e b->kr j i->kr (e.foldl (fun d x=>jk cV.n x d) j) (b.foldl (fun d x=>jk FE.n x d) i):=by
  intro e;induction e with
  |nil=>intro b j i h c;cases h;exact c
  |cons B e l=>
   intro b j i h c;cases h with
   |cons p n t o s k=>
    simp only[List.foldl_cons];exact l _ _ _ k (c.ins p n t o s)
 intro e b h;exact f e b [] [] h .nil
theorem kr.get{l:List cV}{xs:List FE}(s:kr l xs){i:Nat}(c:i<l.length):∃b,xs[i]?=some b/\l[i].n=b.n/\l[i].v=b.v/\l[i].oa=b.o/\hU l[i].ty b.ty/\fM l[i].val b.w:=by
 induction l generalizing xs i with
 |nil=>simp at c
 |cons t l f=>
  cases s with
  |cons k h p j o d=>
   cases i with
   |zero=>exact⟨_,rfl,k,h,p,j,o⟩
   |succ i=>
    obtain⟨b,e,n⟩:=f d (i:=i) (by simpa using c);exact⟨b,by simpa using e,by simpa using n⟩
def iS(c:Nat)(n:List UInt8)(types:List Ty)(b:List Ex)(l:List cV):Ex:=.mk c [] n [] 0 types ((ct cV.n l).map cV.pc) (b++(ct cV.n l).flatMap cV.val)
def kO(es:Nat):List (List D)->cU
 |[]=>.gone
 |e::c=>.row es ((e::c).map fun b=>b.map V.d)
def kV(c es:Nat):List (List D)->V
 |[]=>.d .cC
 |_::b=>.ms c es 0 (b.length+1) (b.length+1)
theorem gQ(es:Nat)(l:List (List D)):gY 0 (kO es l)=true:=by
 cases l with
 |nil=>rfl
 |cons b c=>exact fs 0 es (b::c)
theorem A2(b:Nat->Nat)(es:Nat)(l:List (List D)):eC b (kO es l)=kO es l:=fT b _ (gQ es l)
theorem Cx{c n b:Nat}(f:c<=4294967296)(e:n<=1)(d:b<=200):(c+n)*b<=eE/\c+n<=eE:=by
 unfold eE;constructor
 ·calc (c+n)*b<=4294967297*200:=Nat.mul_le_mul om d
   _<=_:=dc
 ·omega
theorem vA(n:Nat):Nat.ble (n+1+1) (n+1)=false:=by
 rw[<-Bool.not_eq_true,Nat.ble_eq];omega
def jx(e:Nat)(n:List UInt8)(b:D)(c d:V):List V:=[b6 e,cE [],cE n,cE [],b6 0,.d b,c,d]
def jz:List V:=[b6 0,cE [],cE [],cE [],b6 0,.d .cC,.d .cC,.d .cC]
def XZ:Nat->Bool:=fun b=>Nat.beq b 23
theorem Tx{p:cV}{b:FE}(e:p.n=b.n)(d:p.v=b.v)(c:p.oa=b.o):Cw p.pc b.ty=[.str b.n,.str b.v,.int .i64 (Yp b.k),.str b.m,.str b.nm,b.a,b.f,.bool b.o]:=by
 rw[Cw,cV.pc,e,d,c];rfl
def Tz:Bool->Nat
 |false=>1
 |true=>5
def Us(f:Bool)(l:List (List D)):cU:=match f with
 |false=>kO 8 l
 |true=>.gone
def SA(f:Bool)(l:List (List D)):cU:=match f with
 |false=>.gone
 |true=>kO 8 l
theorem rO(b:Nat->Nat)(c es:Nat)(l:List (List D)):iv b (kV c es l)=kV (b c) es l:=by cases l<;>rfl
theorem p1(c es:Nat)(e:List D)(b:List (List D))(d:List D):V.ms c es 0 (b.length+1+1) (b.length+1+1)=kV c es ((e::b)++[d]):=by simp[kV]
theorem qS(c:Nat->Nat)(b:List FE):some (cU.row 9 (dz true b))=some (eC c (.row 9 (dz true b))):=congrArg some (mM c 9 (b.map (wW true))).symm
theorem EY(b:Nat->Nat)(es:Nat)(l:List (List D)):some (kO es l)=some (eC b (kO es l)):=congrArg some (A2 b es l).symm
theorem ua(c:Nat->Nat)(es:Nat)(e:List D)(d:List (List D))(b:List D):some (cU.row es (List.take (d.length+1) (List.drop 0 (YH (fun b=>YH V.d b) (e::d)))++[b.map V.d]))=some (eC c (kO es ((e::d)++[b]))):=by
 rw[A2,List.drop_zero,Ym sm];simp[kO]
theorem vB(b:Nat->Nat)(es:Nat)(c:List D):some (cU.row es [c.map V.d])=some (eC b (kO es ([]++[c]))):=by
 rw[A2];rfl
theorem pd(b es:Nat)(l:List (List D)):gY b (kO es l)=true:=j2 b _ (gQ es l)
theorem EZ(b:Nat->Nat)(f:Bool)(l:List (List D)):some (Us f l)=some (eC b (Us f l)):=by
 cases f
 ·exact EY b 8 l
 ·rfl
theorem zw(b:Nat->Nat)(f:Bool)(l:List (List D)):some (SA f l)=some (eC b (SA f l)):=by
 cases f
 ·rfl
 ·exact EY b 8 l
theorem A3(b:Nat)(f:Bool)(l:List (List D)):gY b (Us f l)=true:=by
 cases f
 ·exact pd b 8 l
 ·rfl
theorem JO(b:Nat)(f:Bool)(l:List (List D)):gY b (SA f l)=true:=by
 cases f
 ·rfl
 ·exact pd b 8 l
theorem E0(b:Nat->Nat)(c:List D):some (cU.row 8 [c.map V.d])=some (eC b (SA true ([]++[c]))):=vB b 8 c
theorem A4(c:Nat->Nat)(e:List D)(d:List (List D))(b:List D):some (cU.row 8 (List.take (d.length+1) (List.drop 0 (YH (fun b=>YH V.d b) (e::d)))++[b.map V.d]))=some (eC c (SA true ((e::d)++[b]))):=ua c 8 e d b
theorem E1{d b:cU}{c:VS}(f:gY 2 d=true)(e:gY 2 b=true):mZ 2 (d::b::c) 2=true:=by
 show(gY 2 d&&(gY 2 b&&mZ 2 c 0))=true;rw[f,e,mZ];rfl
theorem l2.O9{l:List iB}(b:l2 l []):eV l .cC:=by cases b;exact .nil
theorem l2.UX{l:List iB}{b o c:Nat}(e:l2 l a)(d:y=a):eV l (.ps b o 8 c y):=d▸ .ps e
theorem hh.O9{l:List Ex}(b:hh l []):fM l .cC:=by cases b;exact .nil
theorem hh.UX{l:List Ex}{b o c:Nat}(e:hh l a)(d:y=a):fM l (.ps b o 8 c y):=d▸ .ps e
variable{L q:Nat}
theorem w7{c:Nat->Nat}{n:List UInt8}{i b d e:V}(f:i=iv c d)(h:b=iv c e):some (cU.box (jx q n g i b))=some (eC c (.box (jx q n g d e))):=by
 subst f h;rfl
theorem w8{n:List UInt8}{e b:V}(c:bd q e=true)(d:bd q b=true):gY q (.box (jx L n g e b))=true:=by
 simp only[gY,jx,gC,bd,b6,cE,c,d];rfl
theorem w9(es:Nat)(l:List (List D))(b:Nat.blt L q=true):bd q (kV L es l)=true:=by
 cases l with
 |nil=>rfl
 |cons d c=>exact b
theorem Hp(w:Nat)(n:List UInt8)(j:D){kids:List Ex}{l:List cV}{xs:List FE}{l3:List (List D)}(k:hh kids l3)(ac:kr l xs)(ao:(xs.map FE.n).Nodup)(aC:∀ad∈l,ad.val.length<=1)(P:kids.length<=1)(d:Nat)(aG:d=xs.length)(aT:d<4294967295){H:cZ->VS->Prop} 
  (o:∀(i:Bool) (K:List FE) (c b:List (List D)),(i=false->b=l3)->l2 ((ct cV.n l).map cV.pc) c->hh (kids++(ct cV.n l).flatMap cV.val) b->b.length<=d+1->cR 2 (.ret (.agg (jx w n j (kV 4 8 c) (kV (Tz i) 8 b)))) [.row 9 (dz true K),Us i b,.box (jx w n j (kV 4 8 c) (kV (Tz i) 8 b)),.box (jx w n j (kV 4 8 c) (kV (Tz i) 8 b)),kO 8 c,SA i b] H):
  b3 C cn jC [.agg (jx w n j (.d .cC) (.d .cC)),kV 1 8 l3,.ms 0 9 0 d d] [.row 9 (dz true xs),kO 8 l3] H:=by
 refine cy XZ (fun _=>Z) ?_;refine rD (eN:=[.ms 0 (ew true) 0 d d,mO true]) (P:=fun ap x=>x=dz true (ct FE.n xs)/\ap=.ret (.dN [])) ((yC true xs ao d aG om).mono fun ap aN B=>?_) 0 Z (yA xs) Z Z (fun ap x B=>?_)
 ·obtain⟨rfl,rfl⟩:=B;exact⟨_,Z,Z,yA _,Z,Z⟩
 obtain⟨rfl,rfl⟩:=B;have L:=ac.G7;have ai:(ct cV.n l).length=l.length:=(dC l).length_eq;have aL:=ac.len;have u:∀ad∈ct cV.n l,ad.val.length<=1:=fun ad aF=>aC ad ((dC l).subset aF);generalize ct cV.n l=e at L ai u o;generalize ct FE.n xs=K at L⊢;obtain⟨O,v⟩:∃O,O=l3:=⟨_,rfl⟩;have U:∀(i:Bool) (c b:List (List D)),(i=false->b=O)->l2 (e.map cV.pc) c->hh (kids++e.flatMap cV.val) b->b.length<=d+1->cR 2 (.ret (.agg (jx w n j (kV 4 8 c) (kV (Tz i) 8 b)))) [.row 9 (dz true K),Us i b,.box (jx w n j (kV 4 8 c) (kV (Tz i) 8 b)),.box (jx w n j (kV 4 8 c) (kV (Tz i) 8 b)),kO 8 c,SA i b] H:=fun i c b aE ay ar aA=>o i K c b (fun B=>(aE B).trans v) ay ar aA;clear o;rcases l3 with _|⟨R,I⟩;all_goals
  refine b5.less (eh:=[(13,.ms 0 9 0 d d),(14,b6 d),(15,b6 0),(3,.bp 2 0),(6,.bp 3 0)]) ⟨Z,Z,Z,Z,Z,tv⟩ ?_;refine b5.gone (b5.gone ?_);refine b5.iter (fun h:Nat×Bool×List (List D)×List (List D)=>[(13,.ms 0 9 0 d d),(14,b6 d),(15,b6 h.1),(3,.bp 2 0),(6,.bp 3 0)])
   (fun h=>[.row 9 (dz true K),Us h.2.1 h.2.2.2,.box (jx w n j (kV 4 8 h.2.2.1) (kV (Tz h.2.1) 8 h.2.2.2)),.box jz,kO 8 h.2.2.1,SA h.2.1 h.2.2.2]) (fun h=>d-h.1)
   (fun h=>h.1<=d/\l2 ((e.take h.1).map cV.pc) h.2.2.1/\hh (kids++(e.take h.1).flatMap cV.val) h.2.2.2/\(kids++(e.take h.1).flatMap cV.val).length<=h.1+1/\(h.2.1=false->h.2.2.2=O)) ?_ (0,false,[],_) ⟨Yr _,.nil,by simpa using k,by simpa using P,fun _=>v.symm⟩
  rintro⟨f,i,c,l3⟩ ⟨F,g,z,q,m⟩;have aK:f<=d:=F;have Y:l2 ((e.take f).map cV.pc) c:=g;have k:hh (kids++(e.take f).flatMap cV.val) l3:=z;have P:(kids++(e.take f).flatMap cV.val).length<=f+1:=q;have y:i=false->l3=O:=m;clear F g z q m;have aI:=k.len;have r:l3.length<=f+1:=om;have ae:c.length<=f:=by rw[Y.len,List.length_map,Yy];omega
  apply aZ<;>intro ah
  ·have G:f<d:=fq ah;have S:f<e.length:=om;obtain⟨T,au,av,aB,aH,af,an⟩:=L.get S;have al:nth (dz true K) (0+f)=some ((pe T).map V.d):=by rw[Nat.zero_add];exact hV au
   have Q:e.take (f+1)=e.take f++[e[f]]:=by rw[Ys,Yl S];rfl
   have aM:e[f].val.length<=1:=u _ (Yq S);have E:=Tx av aB aH;have t:l2 ((e.take (f+1)).map cV.pc) (c++[[.str T.n,.str T.v,.int .i64 (Yp T.k),.str T.m,.str T.nm,T.a,T.f,.bool T.o]]):=by
    rw[Q,List.map_append,<-E];exact Y.snoc af
   have s:kids++(e.take (f+1)).flatMap cV.val=(kids++(e.take f).flatMap cV.val)++e[f].val:=by
    rw[Q,List.flatMap_append,List.append_assoc];simp
   have p:(kids++(e.take (f+1)).flatMap cV.val).length<=f+1+1:=by rw[s,Yv];omega
   have A:e[f].val=[]->hh (kids++(e.take (f+1)).flatMap cV.val) l3:=fun B=>by rw[s,B,YA];exact k
   have ag:∀X,hh e[f].val [X]->hh (kids++(e.take (f+1)).flatMap cV.val) (l3++[X]):=fun X B=>by rw[s];exact k.KY B
   clear s k Q;obtain⟨aO,aX,aP,aJ,aV,aW,aQ,aS,J⟩:=T;dsimp only at an t E;refine bZ Z ?_;refine a7 G ?_;refine b7 _ al ?_;intro aR;have aj:(J=.cC/\e[f].val=[])∨(∃ab M aa,J=.ps ab M 8 aa []/\e[f].val=[])∨∃ab M aa X,J=.ps ab M 8 aa [X]/\hh e[f].val [X]:=by
    obtain⟨aw,a⟩|⟨ab,M,aa,x,a,ak⟩:=an.inv
    ·exact .inl ⟨a,aw⟩
    ·have:=ak.len;rcases x with _|⟨X,_|⟨aU,ap⟩⟩
     ·exact .inr (.inl ⟨ab,M,aa,a,Yz this.symm⟩)
     ·exact .inr (.inr ⟨ab,M,aa,X,a,ak⟩)
     ·simp at this;omega
   rcases c with _|⟨W,am⟩;all_goals
    first
     |refine a7 rfl (a7 ⟨Yn rfl,Yn rfl⟩ (a1 rfl ?_))
     |refine a7 rfl (a7 ⟨rfl,rfl,by simp,Yo _,Cx (by simp at ae;omega) (Yo _) (Yn rfl)⟩ (a1 rfl (a1 (vA am.length) ?_)))
    rcases aj with⟨rfl,N⟩|⟨az,aD,ax,rfl,N⟩|⟨az,aD,ax,X,rfl,N⟩;all_goals
     cases i;all_goals
      rcases l3 with _|⟨R,I⟩;all_goals
       try refine a7 (rfl:8=_) ?_
       first
        |refine a7 ⟨Yn rfl,Yn rfl⟩ ?_
        |refine a7 ⟨rfl,rfl,by simp,Yo _,Cx (by simp only[Yu]at r;omega) sm (Yn rfl)⟩ ?_
       first
        |refine a8 rfl ?_
        |refine a1 rfl ?_
       try refine a1 (vA I.length) ?_
       first
        |refine⟨(f+1,false,_,_),⟨by show f+1<=d;omega,t,A N,p,y⟩,by show d-(f+1)<d-f;omega,.pick 2 [0,1,2,3,7,5] ⟨rfl,rfl,int_eq (cq om),rfl,rfl,tv⟩ rfl rfl rfl rfl rfl dc ⟨qS _ _,fs _ _ _,by first|exact EZ _ _ _|exact rfl,A3 _ _ _,w7 (by first|exact rfl|exact(p1 _ _ W _ _).trans (rO _ _ _ _).symm) (by first|exact rfl|exact(p1 _ _ R _ _).trans (rO _ _ _ _).symm),w8 (w9 8 _ rfl) (w9 8 _ rfl),rfl,rfl,by first|exact vB _ _ _|exact ua _ _ _ _ _,pd _ _ _,by first|exact zw _ _ _|exact E0 _ _|exact A4 _ _ _ _,JO _ _ _,tv⟩,rfl,rfl⟩
        |refine⟨(f+1,true,_,_),⟨by show f+1<=d;omega,t,A N,p,fun B=>Bool.noConfusion (show true=false from B)⟩,by show d-(f+1)<d-f;omega,.pick 2 [0,1,2,3,7,5] ⟨rfl,rfl,int_eq (cq om),rfl,rfl,tv⟩ rfl rfl rfl rfl rfl dc ⟨qS _ _,fs _ _ _,by first|exact EZ _ _ _|exact rfl,A3 _ _ _,w7 (by first|exact rfl|exact(p1 _ _ W _ _).trans (rO _ _ _ _).symm) (by first|exact rfl|exact(p1 _ _ R _ _).trans (rO _ _ _ _).symm),w8 (w9 8 _ rfl) (w9 8 _ rfl),rfl,rfl,by first|exact vB _ _ _|exact ua _ _ _ _ _,pd _ _ _,by first|exact zw _ _ _|exact E0 _ _|exact A4 _ _ _ _,JO _ _ _,tv⟩,rfl,rfl⟩
        |refine⟨(f+1,true,_,_),⟨by show f+1<=d;omega,t,(ag _ N),p,fun B=>Bool.noConfusion (show true=false from B)⟩,by show d-(f+1)<d-f;omega,.pick 2 [0,1,2,3,7,8] ⟨rfl,rfl,int_eq (cq om),rfl,rfl,tv⟩ rfl rfl rfl rfl rfl dc ⟨qS _ _,fs _ _ _,by first|exact EZ _ _ _|exact rfl,A3 _ _ _,w7 (by first|exact rfl|exact(p1 _ _ W _ _).trans (rO _ _ _ _).symm) (by first|exact rfl|exact(p1 _ _ R _ _).trans (rO _ _ _ _).symm),w8 (w9 8 _ rfl) (w9 8 _ rfl),rfl,rfl,by first|exact vB _ _ _|exact ua _ _ _ _ _,pd _ _ _,by first|exact zw _ _ _|exact E0 _ _|exact A4 _ _ _ _,JO _ _ _,tv⟩,rfl,rfl⟩
  ·have G:d<=f:=dM ah;have aw:e.take f=e:=Ym om;rw[aw]at Y k P;rcases c with _|⟨W,am⟩;all_goals
    cases i;all_goals
     rcases l3 with _|⟨R,I⟩;all_goals
      exact U _ _ _ y Y k (YC r om)
variable{F:List Ex}
theorem rP(i:Nat)(n:List UInt8)(e:D){types:List Ty}{l:List cV}{xs:List FE}(N:fK types e)(d:hh F a)(K:kr l xs)(p:(xs.map FE.n).Nodup)(R:∀x∈l,x.val.length<=1)(h:F.length<=1)(b:Nat)(Q:b=xs.length)(P:b<4294967295):
  b3 C cn jC [.agg (jx i n e (.d .cC) (.d .cC)),kV 1 8 a,.ms 0 9 0 b b] [.row 9 (dz true xs),kO 8 a] fun U s=>∃x W,s=[x,W]/\gY 0 x=true/\gY 0 W=true/\cX U=true/\∃X,hY (iS i n types F l) X/\U=.ret (.agg (X.map V.d)):=by
 have S:iS i n types F l=.mk i [] n [] 0 types ((ct cV.n l).map cV.pc) (F++(ct cV.n l).flatMap cV.val):=rfl;rw[S];refine Hp i n e d K p R h b Q P (fun g m f a Y k d _=>?_);rcases f with _|⟨O,T⟩;all_goals
  cases g;all_goals
   rcases a with _|⟨j,t⟩;all_goals
    first
     |refine cR.freeze 4 (es:=8) (l:=O::T) rfl (ed _) (by repeat' (first|exact tv|exact fun c=>absurd (show(1:Nat)=4 from c) dc|exact fun c=>absurd (show(5:Nat)=4 from c) dc|exact fun _=>⟨rfl,by simp⟩|refine YF ?_ ?_)) (fun q=>?_)
     |skip
    first
     |refine cR.freeze 1 (es:=8) (l:=j::t) rfl (ed _) (by repeat' (first|exact tv|exact fun c=>absurd (show(1:Nat)=4 from c) dc|exact fun c=>absurd (show(5:Nat)=4 from c) dc|exact fun _=>⟨rfl,by simp⟩|refine YF ?_ ?_)) (fun B=>?_)
     |refine cR.freeze 5 (es:=8) (l:=j::t) rfl (ed _) (by repeat' (first|exact tv|exact fun c=>absurd (show(1:Nat)=4 from c) dc|exact fun c=>absurd (show(5:Nat)=4 from c) dc|exact fun _=>⟨rfl,by simp⟩|refine YF ?_ ?_)) (fun B=>?_)
     |skip
    refine cR.drop 2 rfl (E1 (fs _ _ _) (by first|rfl|exact A3 _ _ _)) rfl (cR.now rfl ⟨_,_,rfl,fs _ _ _,by first|rfl|exact A3 _ _ _,rfl,_,.mk N ?_ ?_,rfl⟩)
    ·first|exact k.O9|exact k.UX sm
    ·first|exact d.O9|exact d.UX sm
theorem JP(k:Nat)(n:List UInt8)(f:D){l:List cV}{xs:List FE}(P:kr l xs)(s:(xs.map FE.n).Nodup)(U:∀O∈l,O.val.length<=1)(e:Nat)(S:e=xs.length)(R:e<4294967295):
  b3 C cn jC [.agg (jx k n f (.d .cC) (.d .cC)),.d .cC,.ms 0 9 0 e e] [.row 9 (dz true xs),.gone] fun X x=>∃O t b,x=[O,.gone,kO 8 b]/\gY 0 O=true/\eV ((ct cV.n l).map cV.pc) t/\hh ((ct cV.n l).flatMap cV.val) b/\b.length<=e+1/\X=.ret (.agg (jx k n f (.d t) (kV 2 8 b))):=by
 refine Hp (kids:=[]) (l3:=[]) k n f .nil P s U (Yr _) e S R (fun N K j b i p o h=>?_);have B:(N=false/\b=[])∨(N=true/\b=[])∨∃c d,N=true/\b=c::d:=by
  cases N
  ·exact .inl ⟨Z,i Z⟩
  ·rcases b with _|⟨c,d⟩
   ·exact .inr (.inl ⟨Z,Z⟩)
   ·exact .inr (.inr ⟨c,d,Z,Z⟩)
 clear i;rcases j with _|⟨Q,W⟩;all_goals
  rcases B with⟨rfl,rfl⟩|⟨rfl,rfl⟩|⟨c,d,rfl,rfl⟩;all_goals
   first
    |refine cR.freeze 4 (es:=8) (l:=Q::W) rfl (ed _) (by repeat' (first|exact tv|exact fun V=>absurd (show(1:Nat)=4 from V) dc|exact fun V=>absurd (show(5:Nat)=4 from V) dc|exact fun _=>⟨rfl,by simp⟩|refine YF ?_ ?_)) (fun a=>?_)
    |skip
   first
    |refine cR.pick [0,1,5] (fN:=[.row 9 (dz true K),.gone,kO 8 []]) (r0:=.ret (.agg (jx k n f (.d _) (kV 2 8 [])))) rfl rfl rfl dc ⟨qS _ _,fs _ _ _,rfl,rfl,rfl,rfl,tv⟩ (cR.now rfl ⟨_,_,[],rfl,fs _ _ _,?_,o,h,rfl⟩)
    |refine cR.pick [0,1,5] (fN:=[.row 9 (dz true K),.gone,kO 8 (c::d)]) (r0:=.ret (.agg (jx k n f (.d _) (kV 2 8 (c::d))))) rfl rfl rfl dc ⟨qS _ _,fs _ _ _,rfl,rfl,zw _ true _,pd _ _ _,tv⟩ (cR.now rfl ⟨_,_,c::d,rfl,fs _ _ _,?_,o,h,rfl⟩)
   first|exact p.O9|exact p.UX sm
theorem MF(d:Nat)(n:List UInt8)(c:D):b3 C cn jC [.agg (jx d n c (.d .cC) (.d .cC)),.d .cC,.d .cC] [] fun e b=>b=[]/\e=.ret (.agg (jx d n c (.d .cC) (.d .cC))):=by
 refine cB ?_;refine cA ?_;refine cA ?_;refine b5.loop ?_;refine cA ?_;refine b5.loop ?_;refine b5.loop ?_;refine b5.loop ?_;refine a6 0 ⟨Z,Z⟩
def Ex.k:Ex->Nat|.mk b _ _ _ _ _ _ _=>b
def Ex.kids:Ex->List Ex|.mk _ _ _ _ _ _ _ b=>b
def l4:Ex->List Ty
 |.mk c _ _ _ _ types b _=>types++(if c=8 then b.map iB.ty else [])
mutual
def dh:Ex->Nat
 |.mk k _ _ _ _ types labels kids=>1+cL (types++(if k=8 then labels.map iB.ty else []))+c8 kids
def c8:List Ex->Nat
 |[]=>0
 |e::l=>dh e+c8 l
end
mutual
def l5:Ex->Nat
 |.mk _ _ _ _ _ _ _ kids=>gR kids+1
def gR:List Ex->Nat
 |[]=>0
 |e::l=>max (l5 e) (gR l)
end
theorem gx(b:Ex):dh b=1+cL (l4 b)+c8 b.kids:=by cases b;rw[dh,l4,Ex.kids]
theorem x4(b:Ex):l5 b=gR b.kids+1:=by cases b;rw[l5,Ex.kids]
theorem ia(b:Ex):0<dh b:=by rw[gx];omega
theorem mR(c b:List Ex):c8 (c++b)=c8 c+c8 b:=by
 induction c with
 |nil=>simp[c8]
 |cons e c d=>simp only[Yw,c8,d];omega
theorem Hq(c b:List Ex):gR (c++b)=max (gR c) (gR b):=by
 induction c with
 |nil=>simp[gR]
 |cons e c d=>simp only[Yw,gR,d];omega
theorem j5(l:List Ex):l.length<=c8 l:=by
 induction l with
 |nil=>simp
 |cons c l b=>have:=ia c;simp only[Yu,c8];omega
theorem j6{l:List Ex}{t:Ex}(h:t∈l):dh t<=c8 l:=by
 induction l with
 |nil=>simp at h
 |cons c l b=>
  rcases YB.1 h with rfl|h
  ·simp only[c8];omega
  ·have:=b h;simp only[c8];omega
theorem MG(n:Nat):∀b:Ex,dh b<=n->l5 b<=dh b:=by
 induction n with
 |zero=>intro b h;have:=ia b;omega
 |succ n e=>
  intro b h;rw[gx]at h⊢;rw[x4];have:∀c:List Ex,c8 c<=n->gR c<=c8 c:=by
   intro c;induction c with
   |nil=>intro _;simp[gR]
   |cons i c d=>
    intro f;simp only[c8,gR]at f⊢;have:=e i om;have:=d om;omega
  have:=this _ (by omega:c8 b.kids<=n);omega
theorem A5(l:List Ex):gR l<=c8 l:=by
 induction l with
 |nil=>simp[gR]
 |cons c l b=>have:=MG _ c (Yo _);simp only[gR,c8];omega
theorem xa{l:List Ex}(b:q<l.length):gR (l.take (q+1))=max (gR (l.take q)) (l5 l[q]):=by
 rw[Ys,Yl b,Hq];simp[gR]
theorem p2{l:List Ex}(b:q<l.length):c8 (l.take (q+1))=c8 (l.take q)+dh l[q]:=by
 rw[Ys,Yl b,mR];simp[c8]
theorem l6(l:List Ex)(b:Nat):c8 (l.take b)<=c8 l:=by
 have c:=mR (l.take b) (l.drop b);rw[YD]at c;omega
theorem hh.get{l:List Ex}(j:hh l a){i:Nat}(b:i<l.length):∃c,a[i]?=some c/\hY l[i] c:=by
 induction l generalizing a i with
 |nil=>simp at b
 |cons h l d=>
  cases j with
  |cons f e=>
   cases i with
   |zero=>exact⟨_,rfl,f⟩
   |succ i=>obtain⟨c,h,k⟩:=d e (i:=i) (by simpa using b);exact⟨c,by simpa using h,k⟩
variable{m:Int}
theorem hY.TA{d n c:List UInt8}(b:hY w [.int .i64 (Yp q),.str d,.str n,.str c,.int .i64 m,g,r,v]):fM w.kids v/\w.k=q:=by
 cases b with|mk _ _ b=>exact⟨b,rfl⟩
theorem E2(n:Nat)(U:∀(t:Ex) (i:List D),dh t<=n->hY t i->∀{x:VS} {W:cZ->VS->Prop},W (.ret (b6 (l5 t))) x->b3 C cn k8 [.agg (i.map V.d)] x W) 
  (t:Ex) (i:List D) (A:dh t<=n+1) (I:n<4294967295) (j:hY t i):b3 C cn k8 [.agg (i.map V.d)] [] fun y s=>s=[]/\y=.ret (b6 (l5 t)):=by
 obtain⟨F,G,K,P,l,R,S,E,rfl⟩:=j.eight;have m:=gx t;refine cB ?_;rw[x4];have p:=j.TA.1;have k:c8 t.kids<=n:=om;generalize t.kids=b at p k;have X:=j5 b;cases p with
 |nil=>
  refine b5.loop ?_;refine a6 0 ⟨Z,Z⟩
 |ps u=>
  rename_i O N e f;have o:=u.len;refine b5.less (eh:=[(3,b6 0),(7,.d (.ps O N 8 e f)),(8,b6 b.length),(9,b6 0)]) ⟨Z,Z,int_eq (by rw[o]),rfl,tv⟩ ?_;refine b5.iter (fun d:Nat=>[(3,b6 (gR (b.take d))),(7,.d (.ps O N 8 e f)),(8,b6 b.length),(9,b6 d)]) (fun _=>[.box [b6 F,cE G,cE K,cE P,.d (.int .i64 l),.d R,.d S,.d (.ps O N 8 e f)]]) (fun d=>b.length-d) (fun d=>d<=b.length) ?_ 0 (Yr _);intro d H;apply aZ<;>intro B
  ·have c:d<b.length:=fq B;obtain⟨i,T,h⟩:=u.get c;refine bZ Z ?_;obtain⟨J,z,a,g,Q,v,r,Y,rfl⟩:=h.eight;refine b7 _ (by rw[cz];exact T) ?_;have w:=j6 (Yq c);refine U b[d] _ om h ?_;refine⟨d+1,c,by show b.length-(d+1)<b.length-d;omega,.drop 1 ⟨int_eq ?_,rfl,rfl,int_eq (cq om),tv⟩ rfl rfl rfl rfl rfl rfl rfl,rfl,rfl⟩;rw[xa c];simp only[Yt];omega
  ·have c:b.length<=d:=dM B;rw[Ym c];have q:=A5 b;refine a6 0 ⟨Z,congrArg cZ.ret (congrArg V.d (congrArg (D.int .i64) (cq om)))⟩
theorem Hr:∀(e:Nat) (b:Ex) (d:List D),e<4294967295->dh b<=e->hY b d->∀{c:VS} {h:cZ->VS->Prop},h (.ret (b6 (l5 b))) c->b3 C cn k8 [.agg (d.map V.d)] c h:=by
 intro e;induction e with
 |zero=>intro b d _ o;have:=ia b;omega
 |succ e l=>
  intro b d K o f c h j;obtain⟨N,O,p,t,n,x,B,s,rfl⟩:=f.eight;exact cN (E2 e (fun b d k i=>l b d om k i) b _ o om f) Z Z j
theorem l2.get{l:List iB}(j:l2 l a){i:Nat}(b:i<l.length):∃c,a[i]?=some (Cw l[i] c)/\hU l[i].ty c:=by
 induction l generalizing a i with
 |nil=>simp at b
 |cons h l d=>
  cases j with
  |cons f e=>
   cases i with
   |zero=>exact⟨_,rfl,f⟩
   |succ i=>obtain⟨c,h,k⟩:=d e (i:=i) (by simpa using b);exact⟨c,by simpa using h,k⟩
def kt(h:Nat)(i n f:List UInt8)(b:Int)(d e c:D):List V:=[b6 h,cE i,cE n,cE f,.d (.int .i64 b),.d d,.d e,.d c]
def Ql(l:List iB):List Ty:=l.map iB.ty
theorem Pa{l:List iB}(b:q<l.length):Ql (l.take (q+1))=Ql (l.take q)++[l[q].ty]:=by
 unfold Ql;rw[Ys,Yl b,List.map_append];rfl
def UY:Nat->Bool:=fun b=>Nat.beq b 22
def WG(c:List V)(b:List (List D)):VS:=[.box c,kO 5 b]
theorem MH(S:Nat)(aa n o:List UInt8)(N:Int)(X w a:D)(types:List Ty)(b:List iB)(g:fK types X)(H:eV b w)(J:S=8->types=[])(ac:types.length+b.length<4294967296):
  b3 C cn rp [.agg (kt S aa n o N X w a)] [] fun s v=>v=[]/\cX s=true/\∃I,FG (types++(if S=8 then Ql b else [])) I/\s=.ret (.d I):=by
 refine cy UY (fun _=>Z) ?_;refine cA ?_;by_cases p:S=8
 ·have i:decide (Yp S=8)=true:=by rw[p];exact decide_eq_true rfl
  have:=J p;subst this;rw[if_pos p];have u:X=.cC:=by
   cases g with
   |nil=>rfl
   |ps F l=>cases F;exact absurd rfl l
  subst u;refine a8 i ?_;cases H with
  |nil=>
   refine b5.loop ?_;refine a6 0 ⟨Z,Z,.cC,.nil,Z⟩
  |ps m=>
   rename_i W U e f;have q:=m.len;refine b5.gone ?_;refine b5.less (eh:=[(3,kV 1 5 []),(13,.d (.ps W U 8 e f)),(14,b6 b.length),(15,b6 0)]) ⟨Z,Z,int_eq (by rw[q]),rfl,tv⟩ ?_;refine b5.iter (fun o:Nat×List (List D)=>[(3,kV 1 5 o.2),(13,.d (.ps W U 8 e f)),(14,b6 b.length),(15,b6 o.1)]) (fun ab=>WG (kt S aa n o N .cC (.ps W U 8 e f) a) ab.2) (fun o=>b.length-o.1)
    (fun o=>o.1<=b.length/\eX (Ql (b.take o.1)) o.2) ?_ (0,[]) ⟨Yr _,by exact .nil⟩
   rintro⟨k,j⟩ ⟨y,c⟩;have y:k<=b.length:=y;have c:eX (Ql (b.take k)) j:=c;have Q:=c.len;rw[Ql,List.length_map,Yy]at Q;apply aZ<;>intro E
   ·have d:k<b.length:=fq E;obtain⟨I,L,P⟩:=m.get d;obtain⟨t,K,tn,x,B,rfl⟩:=P.eG;have h:eX (Ql (b.take (k+1))) (j++[[.int .i64 (Yp t),.str K,.str tn,x,B]]):=by rw[Pa d];exact c.snoc P
    refine bZ Z ?_;refine b7 (Cw b[k] _) (by rw[cz];exact L) ?_;rcases j with _|⟨A,s⟩
    ·intro G;refine a7 Z (a7 ⟨Yn Z,Yn Z⟩ ?_);refine⟨(k+1,_),⟨d,h⟩,by show b.length-(k+1)<b.length-k;omega,?_,rfl,rfl⟩;exact .pick 1 [0,3] ⟨Z,Z,Z,int_eq (cq om),tv⟩ Z Z Z Z Z dc ⟨Z,Z,vB _ 5 [.int .i64 (Yp t),.str K,.str tn,x,B],pd _ _ _,tv⟩
    ·intro G;have r:s.length+1<=4294967296:=by simp only[Yu]at Q;omega
     refine a7 Z (a7 ⟨Z,Z,by simp,Yo _,pa r⟩ ?_);refine a1 Z (a1 (dZ (s.length+1)) ?_);refine⟨(k+1,_),⟨d,h⟩,by show b.length-(k+1)<b.length-k;omega,?_,rfl,rfl⟩;exact .pick 1 [0,3] ⟨congrArg some (p1 3 5 A s [.int .i64 (Yp t),.str K,.str tn,x,B]),Z,Z,int_eq (cq om),tv⟩ Z Z Z Z Z dc ⟨Z,Z,ua _ 5 A s [.int .i64 (Yp t),.str K,.str tn,x,B],pd _ _ _,tv⟩
   ·have d:b.length<=k:=dM E;rw[Ym d]at c;rcases j with _|⟨A,s⟩
    ·have V:Ql b=[]:=Yz c.len.symm;refine a6 0 ⟨Z,Z,.cC,by rw[V];exact .nil,rfl⟩
    ·exact hX 0 (s.length+1) Z Z c
 ·have i:decide (Yp S=8)=false:=decide_eq_false fun A=>p (by simp only[Yt]at A;omega);rw[if_neg p,YA];cases g with
  |nil=>
   refine a1 i ?_;refine a6 0 ⟨Z,Z,.cC,.nil,Z⟩
  |ps F l=>
   rename_i ae ad M O;cases O with
   |nil=>exact absurd rfl l
   |cons Y T=>
    have z:=F.len;have R:T.length+1<4294967296:=by simp only[Yu]at z;omega
    refine a7 Z (a7 ⟨Z,Z,Yo _,Yo _,tX Y T R⟩ ?_);refine a1 Z (a1 Z ?_);refine a1 i ?_;refine hX (els:=Y::T) 1 _ sm ?_ (by simpa using F);exact Z
theorem Hs(h:Ex)(e:List D)(n:hY h e)(x:∀f l k j d types b c,h=.mk f l k j d types b c->f=8->types=[])(R:cL (l4 h)<4294967296)(i:∀f l k j d types b c,h=.mk f l k j d types b c->types.length+b.length<4294967296){σ:VS}{K:cZ->VS->Prop}(s:∀e,FG (l4 h) e->K (.ret (.d e)) σ):b3 C cn rp [.agg (e.map V.d)] σ K:=by
 cases n with
 |mk o t Q=>
  rename_i f l k j d types b c B N p;exact b3.closed (P:=fun O=>∃e,FG (types++(if f=8 then Ql b else [])) e/\O=.ret (.d e)) (MH f l k j d B N p types b o t (x _ _ _ _ _ _ _ _ rfl) (i _ _ _ _ _ _ _ _ rfl)) rfl (fun O ⟨e,S,h⟩=>by rw[h];exact s e S)
section
variable{γ δ:Type} (step:γ->Ex->γ ⊕ δ)
mutual
def ja:Ex->γ->γ ⊕ δ
 |.mk k m n x num types labels kids,g=>match step g (.mk k m n x num types labels kids)with
  |.inr s=>.inr s
  |.inl g'=>fY kids g'
def fY:List Ex->γ->γ ⊕ δ
 |[],g=>.inl g
 |e::l,g=>match ja e g with
  |.inr s=>.inr s
  |.inl g'=>fY l g'
end
theorem nv(b:Ex)(d:γ):ja step b d=match step d b with
  |.inr s=>.inr s
  |.inl c=>fY step b.kids c:=by cases b;rw[ja];rfl
theorem A6(e b:List Ex)(d:γ):fY step (e++b) d=match fY step e d with
  |.inr s=>.inr s
  |.inl c=>fY step b c:=by
 induction e generalizing d with
 |nil=>rfl
 |cons h e f=>
  simp only[Yw,fY];cases ja step h d with
  |inr s=>rfl
  |inl c=>exact f c
theorem tq{l:List Ex}{c b:γ}(e:q<l.length)(d:fY step (l.take q) c=.inl b):fY step (l.take (q+1)) c=ja step l[q] b:=by
 rw[Ys,Yl e,A6,d];simp only[YG,fY];cases ja step l[q] b<;>rfl
theorem tr{l:List Ex}{b:γ}{d:δ}(c:fY step (l.take q) b=.inr d):fY step l b=.inr d:=by
 have:=A6 step (l.take q) (l.drop q) b;rw[YD,c]at this;exact this
variable{step}
theorem Lc{f:γ->Nat}(C:∀d e b,step d e=.inl b->f b<=f d+(1+cL (l4 e))):∀(e:Ex) (d b:γ),ja step e d=.inl b->f b<=f d+dh e:=by
 have n:∀(o:Nat) (e:Ex) (d b:γ),dh e<=o->ja step e d=.inl b->f b<=f d+dh e:=by
  intro o;induction o with
  |zero=>intro e d b x;have:=ia e;omega
  |succ o B=>
   intro e d b x c;have K:=gx e;rw[nv]at c;cases h:step d e with
   |inr s=>rw[h]at c;cases c
   |inl p=>
    rw[h]at c;have P:=C _ _ _ h;have:∀(j:List Ex) (d b:γ),c8 j<=o->fY step j d=.inl b->f b<=f d+c8 j:=by
     intro j;induction j with
     |nil=>intro d b _ x;cases x;exact Yo _
     |cons D j l=>
      intro d b t c;rw[fY]at c;rw[c8]at t⊢;cases i:ja step D d with
      |inr s=>rw[i]at c;cases c
      |inl k=>
       rw[i]at c;have N:=B D d k om i;have Q:=l k b om c;omega
    have O:=this e.kids p b om c;omega
 intro e d b;exact n _ e d b (Yo _)
end
theorem zx(n:Nat)(σ:VS)(b:VS)(c:σ.length=n):Nat.ble n (σ++b).length=true:=by
 rw[Nat.ble_eq,Yv,c];exact Yx _ _
theorem Ht(n:Nat)(σ:VS)(o:cU)(b:VS)(c:σ.length+1=n):Nat.ble n (σ++o::b).length=true:=by
 rw[Nat.ble_eq,Yv,Yu];omega
theorem Dh(σ:VS)(o:cU)(b:VS){n:Nat}(c:σ.length+1=n):(σ++o::b).take n=σ++[o]:=by
 subst c;rw[List.take_append,Ym om];simp
theorem Rc:∀{d:Nat} {b c:VS},b.length=d->mZ q (b++c) d=mZ q b d:=by
 intro d;induction d with
 |zero=>intro b c _;rw[mZ,mZ]
 |succ d e=>
  intro b c f;cases b with
  |nil=>cases f
  |cons h b=>
   simp only[Yw,mZ];rw[e (by simpa using f)]
theorem tu{d n:Nat}{σ b:VS}(e:mZ d σ n=true)(c:σ.length=n):mZ d (σ++b) n=true:=by rw[Rc c,e]
structure Ut where
 (o0 o1 o2:cU)
 L:jT
def W3(b:Ut):VS:=[b.o0,b.o1,b.o2,.fg false,.loop b.L,.box [.so 4],.box [.fn e5 [] [.bp 5 0,.bp 6 0]]]
theorem Re{γ δ:Type}{step:γ->Ex->γ ⊕ δ}{K:γ->Nat}{Good:Ex->Prop}{B:γ ⊕ δ->Ut} 
  (J:∀c,Good c->∀l∈c.kids,Good l) (x:∀l,mZ 7 (W3 (B l)) 7=true) (q:∀l o k,gC 0 o=true->mZ 8 (W3 (B l)++.box o::k) 8=true)
  (ae:∀f c P,step f c=.inl P->K P<=K f+(1+cL (l4 c)))
  (ap:∀(f:γ) (c:Ex) (T:List D) (o:List V) (am:cZ->VS->Prop),hY c T->Good c->gC 0 o=true->K f+dh c<4294967296->(∀P,step f c=.inl P->∀k,am (.ret (b0 true)) (W3 (B (.inl P))++.box o::k))->(∀s,step f c=.inr s->∀k,am (.ret (b0 false)) (W3 (B (.inr s))++.box o::k))->
   h7 C cn 4 [.agg (T.map V.d)] (W3 (B (.inl f))++[.box o]) am) (n:Nat)
  (au:∀(c:Ex) (T:List D) (f:γ),dh c<=n->hY c T->Good c->K f+dh c<4294967296->b3 C cn e5 [.agg (T.map V.d),.bp 5 0,.bp 6 0] (W3 (B (.inl f))) fun ai t=>∃l,ja step c f=l/\t=W3 (B l)/\ai=.ret (b0 l.isLeft))
  (c:Ex) (T:List D) (f:γ) (aD:dh c<=n+1) (u:hY c T) (a:Good c) (F:K f+dh c<4294967296):
  b3 C cn e5 [.agg (T.map V.d),.bp 5 0,.bp 6 0] (W3 (B (.inl f))) fun ai t=>∃l,ja step c f=l/\t=W3 (B l)/\ai=.ret (b0 l.isLeft):=by
 obtain⟨aj,ak,S,U,p,W,Y,ao,rfl⟩:=u.eight;have ay:=gx c;refine cB ?_;refine ap f c _ (kt aj ak S U p W Y ao) _ u a Z F (fun e X k=>?_) (fun s X k=>?_)
 ·have I:=u.TA.1;have aw:=ae f c e X;have Q:=J c a;have af:ja step c f=fY step c.kids e:=by rw[nv,X]
  rw[af];have z:c8 c.kids<=n:=om;have ab:K e+c8 c.kids<4294967296:=om;generalize c.kids=b at I z ab Q;have av:=j5 b;cases I with
  |nil=>
   refine b5.loop ?_;refine cR.drop 7 (zx 7 _ _ Z) (tu (x _) Z) Z ?_;exact cR.now Z ⟨_,Z,Z,Z⟩
  |ps al=>
   rename_i M E h j;have H:=al.len;refine cw (eh:=[(12,.d (.ps M E 8 h j)),(13,b6 b.length),(14,b6 0),(2,.bp 6 0)]) (fN:=W3 (B (.inl e))++[.box (kt aj ak S U p W Y (.ps M E 8 h j))]) (.drop 8 ⟨Z,int_eq (by rw[H]),rfl,rfl,tv⟩ (Ht 8 _ _ _ rfl) rfl (q _ _ _ rfl) rfl rfl rfl (by exact Dh _ _ _ rfl)) ?_;refine b5.iter (fun N:Nat×γ=>[(12,.d (.ps M E 8 h j)),(13,b6 b.length),(14,b6 N.1),(2,.bp 6 0)]) (fun N=>W3 (B (.inl N.2))++[.box (kt aj ak S U p W Y (.ps M E 8 h j))]) (fun N=>b.length-N.1) (fun N=>N.1<=b.length/\fY step (b.take N.1) e=.inl N.2/\K N.2<=K e+c8 (b.take N.1)) ?_ (0,e) ⟨Yr _,by rw[List.take_zero];rfl,Yx _ _⟩;rintro⟨R,v⟩ ⟨aa,i,m⟩;have aa:R<=b.length:=aa;have i:fY step (b.take R) e=.inl v:=i;have m:K v<=K e+c8 (b.take R):=m;apply aZ<;>intro ag
   ·have d:R<b.length:=fq ag;obtain⟨T,aq,r⟩:=al.get d;refine bZ Z ?_;obtain⟨ar,an,G,L,w,ad,ac,y,rfl⟩:=r.eight;refine b7 _ (by rw[cz];exact aq) ?_;have aB:=j6 (Yq d);have A:=p2 d;have ax:=l6 b (R+1);refine(au b[R] _ v om r (Q _ (Yq d)) om).pre [.box (kt aj ak S U p W Y (.ps M E 8 h j)),.box (kt ar an G L w ad ac y)] (x _) Z (fun ai t al=>?_);obtain⟨l,g,rfl,rfl⟩:=al;refine⟨Z,x _,Z,?_⟩;have O:=tq step d i;rw[g]at O;cases l with
    |inl ah=>
     have aC:=Lc ae _ _ _ g;refine⟨(R+1,ah),⟨d,O,by show K ah<=_;rw[A];omega⟩,by show b.length-(R+1)<b.length-R;omega,.drop 8 ⟨rfl,rfl,int_eq (cq om),rfl,tv⟩ rfl rfl (q _ _ _ rfl) rfl rfl rfl rfl,rfl,rfl⟩
    |inr s=>
     refine cR.drop 7 Z (tu (x _) Z) Z ?_;refine cR.now Z ⟨.inr s,?_,Z,Z⟩;exact tr step O
   ·have d:b.length<=R:=dM ag;rw[Ym d]at i;refine cR.drop 7 Z (tu (x _) Z) Z ?_;exact cR.now Z ⟨_,i,Z,Z⟩
 ·refine cR.drop 7 (zx 7 _ _ Z) (tu (x _) Z) Z ?_;exact cR.now Z ⟨.inr s,by rw[nv,X],rfl,rfl⟩
theorem TB{γ δ:Type}{step:γ->Ex->γ ⊕ δ}{B:γ->Nat}{Good:Ex->Prop}{S:γ ⊕ δ->Ut} 
  (j:∀b,Good b->∀h∈b.kids,Good h) (s:∀h,mZ 7 (W3 (S h)) 7=true) (n:∀h c e,gC 0 c=true->mZ 8 (W3 (S h)++.box c::e) 8=true)
  (P:∀d b f,step d b=.inl f->B f<=B d+(1+cL (l4 b)))
  (K:∀(d:γ) (b:Ex) (i:List D) (c:List V) (o:cZ->VS->Prop),hY b i->Good b->gC 0 c=true->B d+dh b<4294967296->(∀f,step d b=.inl f->∀e,o (.ret (b0 true)) (W3 (S (.inl f))++.box c::e))->(∀Q,step d b=.inr Q->∀e,o (.ret (b0 false)) (W3 (S (.inr Q))++.box c::e))->
   h7 C cn 4 [.agg (i.map V.d)] (W3 (S (.inl d))++[.box c]) o):
  ∀(k:Nat) (b:Ex) (i:List D) (d:γ),dh b<=k->hY b i->Good b->B d+dh b<4294967296->b3 C cn e5 [.agg (i.map V.d),.bp 5 0,.bp 6 0] (W3 (S (.inl d))) fun R l=>∃h,ja step b d=h/\l=W3 (S h)/\R=.ret (b0 h.isLeft):=by
 intro k;induction k with
 |zero=>intro b i d T;have:=ia b;omega
 |succ k O=>intro b i d x p N t;exact Re j s n P K k O b i d x p N t
structure UZ where
 (o0 o1 o2 o3 o4:cU)
 L:jT
def W5(b:UZ):VS:=[b.o0,b.o1,b.o2,b.o3,b.o4,.fg false,.loop b.L,.box [.so 6],.box [.fn e5 [] [.bp 7 0,.bp 8 0]]]
theorem Rf{γ δ:Type}{step:γ->Ex->γ ⊕ δ}{K:γ->Nat}{Good:Ex->Prop}{B:γ ⊕ δ->UZ} 
  (J:∀c,Good c->∀l∈c.kids,Good l) (x:∀l,mZ 9 (W5 (B l)) 9=true) (q:∀l o k,gC 0 o=true->mZ 10 (W5 (B l)++.box o::k) 10=true)
  (ae:∀f c P,step f c=.inl P->K P<=K f+(1+cL (l4 c)))
  (ap:∀(f:γ) (c:Ex) (T:List D) (o:List V) (am:cZ->VS->Prop),hY c T->Good c->gC 0 o=true->K f+dh c<4294967296->(∀P,step f c=.inl P->∀k,am (.ret (b0 true)) (W5 (B (.inl P))++.box o::k))->(∀s,step f c=.inr s->∀k,am (.ret (b0 false)) (W5 (B (.inr s))++.box o::k))->
   h7 C cn 6 [.agg (T.map V.d)] (W5 (B (.inl f))++[.box o]) am) (n:Nat)
  (au:∀(c:Ex) (T:List D) (f:γ),dh c<=n->hY c T->Good c->K f+dh c<4294967296->b3 C cn e5 [.agg (T.map V.d),.bp 7 0,.bp 8 0] (W5 (B (.inl f))) fun ai t=>∃l,ja step c f=l/\t=W5 (B l)/\ai=.ret (b0 l.isLeft))
  (c:Ex) (T:List D) (f:γ) (aD:dh c<=n+1) (u:hY c T) (a:Good c) (F:K f+dh c<4294967296):
  b3 C cn e5 [.agg (T.map V.d),.bp 7 0,.bp 8 0] (W5 (B (.inl f))) fun ai t=>∃l,ja step c f=l/\t=W5 (B l)/\ai=.ret (b0 l.isLeft):=by
 obtain⟨aj,ak,S,U,p,W,Y,ao,rfl⟩:=u.eight;have ay:=gx c;refine cB ?_;refine ap f c _ (kt aj ak S U p W Y ao) _ u a Z F (fun e X k=>?_) (fun s X k=>?_)
 ·have I:=u.TA.1;have aw:=ae f c e X;have Q:=J c a;have af:ja step c f=fY step c.kids e:=by rw[nv,X]
  rw[af];have z:c8 c.kids<=n:=om;have ab:K e+c8 c.kids<4294967296:=om;generalize c.kids=b at I z ab Q;have av:=j5 b;cases I with
  |nil=>
   refine b5.loop ?_;refine cR.drop 9 (zx 9 _ _ Z) (tu (x _) Z) Z ?_;exact cR.now Z ⟨_,Z,Z,Z⟩
  |ps al=>
   rename_i M E h j;have H:=al.len;refine cw (eh:=[(12,.d (.ps M E 8 h j)),(13,b6 b.length),(14,b6 0),(2,.bp 8 0)]) (fN:=W5 (B (.inl e))++[.box (kt aj ak S U p W Y (.ps M E 8 h j))]) (.drop 10 ⟨Z,int_eq (by rw[H]),rfl,rfl,tv⟩ (Ht 10 _ _ _ rfl) rfl (q _ _ _ rfl) rfl rfl rfl (by exact Dh _ _ _ rfl)) ?_;refine b5.iter (fun N:Nat×γ=>[(12,.d (.ps M E 8 h j)),(13,b6 b.length),(14,b6 N.1),(2,.bp 8 0)]) (fun N=>W5 (B (.inl N.2))++[.box (kt aj ak S U p W Y (.ps M E 8 h j))]) (fun N=>b.length-N.1) (fun N=>N.1<=b.length/\fY step (b.take N.1) e=.inl N.2/\K N.2<=K e+c8 (b.take N.1)) ?_ (0,e) ⟨Yr _,by rw[List.take_zero];rfl,Yx _ _⟩;rintro⟨R,v⟩ ⟨aa,i,m⟩;have aa:R<=b.length:=aa;have i:fY step (b.take R) e=.inl v:=i;have m:K v<=K e+c8 (b.take R):=m;apply aZ<;>intro ag
   ·have d:R<b.length:=fq ag;obtain⟨T,aq,r⟩:=al.get d;refine bZ Z ?_;obtain⟨ar,an,G,L,w,ad,ac,y,rfl⟩:=r.eight;refine b7 _ (by rw[cz];exact aq) ?_;have aB:=j6 (Yq d);have A:=p2 d;have ax:=l6 b (R+1);refine(au b[R] _ v om r (Q _ (Yq d)) om).pre [.box (kt aj ak S U p W Y (.ps M E 8 h j)),.box (kt ar an G L w ad ac y)] (x _) Z (fun ai t al=>?_);obtain⟨l,g,rfl,rfl⟩:=al;refine⟨Z,x _,Z,?_⟩;have O:=tq step d i;rw[g]at O;cases l with
    |inl ah=>
     have aC:=Lc ae _ _ _ g;refine⟨(R+1,ah),⟨d,O,by show K ah<=_;rw[A];omega⟩,by show b.length-(R+1)<b.length-R;omega,.drop 10 ⟨rfl,rfl,int_eq (cq om),rfl,tv⟩ rfl rfl (q _ _ _ rfl) rfl rfl rfl rfl,rfl,rfl⟩
    |inr s=>
     refine cR.drop 9 Z (tu (x _) Z) Z ?_;refine cR.now Z ⟨.inr s,?_,Z,Z⟩;exact tr step O
   ·have d:b.length<=R:=dM ag;rw[Ym d]at i;refine cR.drop 9 Z (tu (x _) Z) Z ?_;exact cR.now Z ⟨_,i,Z,Z⟩
 ·refine cR.drop 9 (zx 9 _ _ Z) (tu (x _) Z) Z ?_;exact cR.now Z ⟨.inr s,by rw[nv,X],rfl,rfl⟩
theorem TC{γ δ:Type}{step:γ->Ex->γ ⊕ δ}{B:γ->Nat}{Good:Ex->Prop}{S:γ ⊕ δ->UZ} 
  (j:∀b,Good b->∀h∈b.kids,Good h) (s:∀h,mZ 9 (W5 (S h)) 9=true) (n:∀h c e,gC 0 c=true->mZ 10 (W5 (S h)++.box c::e) 10=true)
  (P:∀d b f,step d b=.inl f->B f<=B d+(1+cL (l4 b)))
  (K:∀(d:γ) (b:Ex) (i:List D) (c:List V) (o:cZ->VS->Prop),hY b i->Good b->gC 0 c=true->B d+dh b<4294967296->(∀f,step d b=.inl f->∀e,o (.ret (b0 true)) (W5 (S (.inl f))++.box c::e))->(∀Q,step d b=.inr Q->∀e,o (.ret (b0 false)) (W5 (S (.inr Q))++.box c::e))->
   h7 C cn 6 [.agg (i.map V.d)] (W5 (S (.inl d))++[.box c]) o):
  ∀(k:Nat) (b:Ex) (i:List D) (d:γ),dh b<=k->hY b i->Good b->B d+dh b<4294967296->b3 C cn e5 [.agg (i.map V.d),.bp 7 0,.bp 8 0] (W5 (S (.inl d))) fun R l=>∃h,ja step b d=h/\l=W5 (S h)/\R=.ret (b0 h.isLeft):=by
 intro k;induction k with
 |zero=>intro b i d T;have:=ia b;omega
 |succ k O=>intro b i d x p N t;exact Rf j s n P K k O b i d x p N t
def eM:Ty:=.mk 0 [] [] [] []
def eY{b:Type}(step:b->Nat->PR b)(h:Rd)(c:List UInt8):Nat->b->Nat->PR b
 |0,_,_=>.bad 0 3
 |f+1,l,n=>match step l n with
  |.bad i j=>.bad i j
  |.ok d e=>if cD (h.tok e) c then .ok d (e+1)else match cv h [[44]] e with
   |.bad i j=>.bad i j
   |.ok _ k=>eY step h c f d k
def dK{b:Type}(step:b->Nat->PR b)(d:Rd)(c:List UInt8)(e:b)(p:Nat):PR b:=
 if cD (d.tok p) c then .ok e (p+1)else eY step d c d.ts.length e p
def dS(c:Rd)(b:List cV)(p:Nat):PR (List UInt8):=
 if(c.tok p).kind≠1 then .bad (c.tok p).off 3 else if(c.tok p).text∈b.map cV.n then .bad (c.tok p).off 5 else .ok (c.tok p).text (p+1)
def ep(b:Nat->PR Ex)(e:Rd)(d:List UInt8)(p:Nat):PR Ex:=match cv e [d] p with
 |.bad f h=>.bad f h
 |.ok _ c=>b c
def fW(c:Nat->PR Ex)(d:Rd)(b:List cV)(p:Nat):PR (List cV):=match dS d b p with
 |.bad i j=>.bad i j
 |.ok h e=>(ep c d [58] e).map fun f=>b++[⟨h,[],eM,false,[f]⟩]
def dy(b:Rd)(p:Nat):PR (List UInt8):=if(b.tok p).kind≠1 then .bad (b.tok p).off 3 else .ok (b.tok p).text (p+1)
def fD(c:Nat->PR Ex)(e:Rd)(b:List cV)(p:Nat):PR (List cV):=match dS e b p with
 |.bad f h=>.bad f h
 |.ok k i=>match dy e i with
  |.bad f h=>.bad f h
  |.ok l d=>(ep c e [61,62] d).map fun j=>b++[⟨k,l,eM,false,[j]⟩]
def ee(j:Nat->PR Ty)(f:Nat->PR Ex)(i:Rd)(b:List cV)(p:Nat):PR (List cV):=match dS i b p with
 |.bad d e=>.bad d e
 |.ok k n=>match cv i [[58]] n with
  |.bad d e=>.bad d e
  |.ok _ h=>match j h with
   |.bad d e=>.bad d e
   |.ok l c=>if cD (i.tok c) [61]then(f (c+1)).map fun o=>b++[⟨k,[],l,true,[o]⟩]else .ok (b++[⟨k,[],l,false,[]⟩]) c
def iT(c:Nat->PR Ex)(b:List Ex)(p:Nat):PR (List Ex):=(c p).map fun d=>b++[d]
def hZ(d:Nat->PR Ex)(e:Rd)(c:List UInt8)(f:Nat)(b:List Ex)(p:Nat):PR Ex:=(dK (fW d e) e c [] p).map (iS f [] [] b)
def oc(b:Nat)(c:Rd)(p:Nat):PR Ex:=
 if(c.tok p).kind≠3 then .bad (c.tok p).off 3 else match Lib.parseUintB 64 (c.tok p).text with
  |.ok d=>if b<d then .bad (c.tok p).off 2 else .ok (.mk 0 [] [] [] (if b=9223372036854775808 then IntKind.i64.wrap (IntKind.u64.wrap (0-Yp d))else IntKind.i64.wrap (Yp d)) [] [] []) (p+1)
  |_=>.bad (c.tok p).off 2
def mv(t:Tok)(b:List (List UInt8)):Option (List UInt8):=b.find? (cD t)
def rQ(next:Nat->PR Ex)(b:List (List UInt8))(i:Rd):Nat->Ex->Nat->PR Ex
 |0,_,_=>.bad 0 3
 |f+1,h,c=>match mv (i.tok c) b with
  |none=>.ok h c
  |some d=>match next (c+1)with
   |.bad d k=>.bad d k
   |.ok j e=>rQ next b i f (.mk 16 [] d [] 0 [] [] [h,j]) e
def l7(next:Nat->PR Ex)(b:List (List UInt8))(c:Rd)(p:Nat):PR Ex:=match next p with
 |.bad f h=>.bad f h
 |.ok e d=>rQ next b c c.ts.length e d
def hF(d:Nat->PR Ty)(b:Rd)(e:List UInt8)(p:Nat):PR Ex:=
 match(if cD (b.tok p) [58,58]then(dy b (p+1)).map fun j=>(4,e,j)else .ok (3,[],e) p:PR (Nat×List UInt8×List UInt8))with
 |.bad k l=>.bad k l
 |.ok (i,h,f) c=>if cD (b.tok c) [91]then(fA d b c).map fun n=>.mk 4 h f [] 0 n [] []else .ok (.mk i h f [] 0 [] [] []) c
def fb(i:Nat->PR Ty)(f:Nat->PR Ex)(b:Rd)(p:Nat):PR Ex:=
 if(b.tok p).kind=3 then oc 9223372036854775807 b p
 else if(b.tok p).kind=4 then .ok (.mk 1 [] [] (b.tok p).text 0 [] [] []) (p+1)
 else if(b.tok p).kind=1 then hF i b (b.tok p).text (p+1)
 else if cD (b.tok p) [116,114,117,101]then .ok (.mk 2 [] [] [] 1 [] [] []) (p+1)
 else if cD (b.tok p) [102,97,108,115,101]then .ok (.mk 2 [] [] [] 0 [] [] []) (p+1)
 else if cD (b.tok p) [123]then hZ f b [125] 5 [] (p+1)
 else if cD (b.tok p) [60]then match dy b (p+1)with
  |.bad d e=>.bad d e
  |.ok n h=>match ep f b [58] h with
   |.bad d e=>.bad d e
   |.ok j c=>(cv b [[62]] c).map fun _=>.mk 7 [] n [] 0 [] [] [j]
 else if cD (b.tok p) [91]then match i (p+1)with
  |.bad d e=>.bad d e
  |.ok k h=>match cv b [[124]] h with
   |.bad d e=>.bad d e
   |.ok _ c=>(dK (iT f) b [93] [] c).map fun o=>.mk 14 [] [] [] 0 [k] [] o
 else if cD (b.tok p) [40]then match f (p+1)with
  |.bad d e=>.bad d e
  |.ok j h=>match(if cD (b.tok h) [58]then(i (h+1)).map fun k=>.mk 11 [] [] [] 0 [k] [] [j]else .ok j h:PR Ex)with
   |.bad d e=>.bad d e
   |.ok l c=>(cv b [[41]] c).map fun _=>l
 else .bad (b.tok p).off 3
def jL(b:Nat->PR Ex)(d:Rd):Nat->Ex->Nat->PR Ex
 |0,_,_=>.bad 0 3
 |f+1,h,e=>
  if cD (d.tok e) [46]then match dy d (e+1)with
   |.bad i j=>.bad i j
   |.ok l c=>jL b d f (.mk 6 [] l [] 0 [] [] [h]) c
  else if cD (d.tok e) [40]then match hZ b d [41] 9 [h] (e+1)with
   |.bad i j=>.bad i j
   |.ok k c=>jL b d f k c
  else .ok h e
def gm(d:Nat->PR Ty)(b:Nat->PR Ex)(c:Rd)(p:Nat):PR Ex:=match fb d b c p with
 |.bad h i=>.bad h i
 |.ok f e=>jL b c c.ts.length f e
def U0(c:List UInt8)(b:Ex):Ex:=.mk 16 [] c [] 0 [] [] [b]
def nI(d:Nat->PR Ty)(b:Nat->PR Ex)(c:Rd):Nat->Nat->PR Ex
 |0,_=>.bad 0 3
 |f+1,e=>
  if cD (c.tok e) [108,101,110,103,116,104]then(nI d b c f (e+1)).map (U0 [108,101,110,103,116,104])
  else if cD (c.tok e) [45]then oc 9223372036854775808 c (e+1)
  else gm d b c e
def U1(d:Nat->PR Ty)(b:Nat->PR Ex)(c:Rd):Nat->PR Ex:=l7 (nI d b c c.ts.length) [[42]] c
def kL(c:Nat->PR Ty)(b:Nat->PR Ex)(d:Rd):Nat->PR Ex:=l7 (U1 c b d) [[43],[45],[43,43]] d
def l8(c:Nat->PR Ty)(b:Nat->PR Ex)(d:Rd):Nat->Nat->PR Ex
 |0,_=>.bad 0 3
 |f+1,h=>
  if cD (d.tok h) [110,111,116]then(l8 c b d f (h+1)).map (U0 [110,111,116])
  else match kL c b d h with
   |.bad l n=>.bad l n
   |.ok i e=>match mv (d.tok e) [[61,61],[61,61,61],[60]]with
    |none=>.ok i e
    |some k=>(kL c b d (e+1)).map fun j=>.mk 16 [] k [] 0 [] [] [i,j]
def U2(d:Nat->PR Ty)(b:Nat->PR Ex)(c:Rd):Nat->PR Ex:=l7 (l8 d b c c.ts.length) [[97,110,100]] c
def MI(c:Nat->PR Ty)(b:Nat->PR Ex)(d:Rd):Nat->PR Ex:=l7 (U2 c b d) [[111,114]] d
def sn(b:Nat->PR Ex)(d:Rd)(p:Nat):PR Ex:=match dy d p with
 |.bad e f=>.bad e f
 |.ok k i=>match ep b d [61] i with
  |.bad e f=>.bad e f
  |.ok j c=>(ep b d [105,110] c).map fun h=>.mk 10 [] k [] 0 [] [] [j,h]
def l9(h:Nat->PR Ty)(b:Nat->PR Ex)(f:Rd)(p:Nat):PR Ex:=match dl h f p with
 |.bad c d=>.bad c d
 |.ok o k=>match b k with
  |.bad c d=>.bad c d
  |.ok l e=>match ep b f [116,104,101,110] e with
   |.bad c d=>.bad c d
   |.ok j i=>(ep b f [101,108,115,101] i).map fun n=>.mk 12 [] [] [] 0 [o] [] [l,j,n]
def j7(h:Nat->PR Ty)(b:Nat->PR Ex)(e:Rd)(p:Nat):PR Ex:=match dl h e p with
 |.bad c d=>.bad c d
 |.ok l j=>match b j with
  |.bad c d=>.bad c d
  |.ok k f=>match cv e [[123]] f with
   |.bad c d=>.bad c d
   |.ok _ i=>(dK (fD b e) e [125] [] i).map (iS 13 [] [l] [k])
def j8(j:Nat->PR Ty)(d:Nat->PR Ex)(e:Rd)(p:Nat):PR Ex:=match dl j e p with
 |.bad b c=>.bad b c
 |.ok B o=>match dy e o with
  |.bad b c=>.bad b c
  |.ok t i=>match cv e [[44]] i with
   |.bad b c=>.bad b c
   |.ok _ l=>match dy e l with
    |.bad b c=>.bad b c
    |.ok C f=>match ep d e [105,110] f with
     |.bad b c=>.bad b c
     |.ok s h=>match ep d e [102,114,111,109] h with
      |.bad b c=>.bad b c
      |.ok n k=>(ep d e [61,62] k).map fun x=>.mk 15 [] t C 0 [B] [] [s,n,x]
def E3:Ex->Ex->Ex
 |.mk i j h f d types b c,e=>.mk i j h f d types b (c++[e])
def funcF(h:Nat->PR Ty)(b:Nat->PR Ex)(c:Rd)(p:Nat):PR Ex:=match cv c [[40]] p with
 |.bad e f=>.bad e f
 |.ok _ i=>match dK (ee h b c) c [41] [] i with
  |.bad e f=>.bad e f
  |.ok j d=>(ep b c [61,62] d).map (E3 (iS 8 [] [] [] j))
def yE(d:Nat->PR Ty)(c:Nat->PR Ex)(b:Rd)(p:Nat):PR Ex:=
 if(b.tok p).kind=5/\(b.tok p).text=[108,101,116]then sn c b (p+1)
 else if(b.tok p).kind=5/\(b.tok p).text=[105,102]then l9 d c b (p+1)
 else if(b.tok p).kind=5/\(b.tok p).text=[109,97,116,99,104]then j7 d c b (p+1)
 else if(b.tok p).kind=5/\(b.tok p).text=[102,111,108,100]then j8 d c b (p+1)
 else if(b.tok p).kind=5/\(b.tok p).text=[102,110]then funcF d c b (p+1)
 else MI d c b p
def zy(b:Rd):Nat->Nat->PR Ex
 |0,_=>.bad 0 3
 |f+1,c=>yE (dG b b.ts.length) (zy b f) b c
structure na (g:FuncId) (fn:Nat->PR Ex) (R:Rd) (lo:Nat):Prop where
 lt:∀p x q,lo<=p->p<R.ts.length->fn p=.ok x q->p<q/\q<R.ts.length
 call:∀p,lo<=p->p<R.ts.length->∀(i:Nat) (σ:VS) (K:cZ->VS->Prop),nth σ i=some (e8 R p)->(∀x d q,fn p=.ok x q->hY x d->K (.ret (.agg (d.map V.d))) (σ.set i (e8 R q)))->
  (∀off e q,fn p=.bad off e->K (.fO (fC off e)) (σ.set i (e8 R q)))->b3 C cn g [.bp i 0] σ K
def MJ(i:Rd)(e:PR Ex)(h:cZ)(c:List V):Prop:=match e with
 |.ok e d=>c=xY i d/\∃f,hY e f/\h=.ret (.agg (f.map V.d))
 |.bad b j=>∃d,c=xY i d/\h=.fO (fC b j)
def Ip(f:Rd)(e:PR Ex)(d:cZ)(c:VS):Prop:=∃b,c=[.box b]/\cX d=true/\gC 0 b=true/\MJ f e d b
variable{G:FuncId} {z:Rd}
theorem na.of{fn:Nat->PR Ex}{lo:Nat}(e:∀b x c,lo<=b->b<z.ts.length->fn b=.ok x c->b<c/\c<z.ts.length)(d:∀b,lo<=b->b<z.ts.length->b3 C cn G [.bp 0 0] [e8 z b] (Ip z (fn b))):na G fn z lo:=by
 refine⟨e,fun b o l N D O h j p=>?_⟩;refine b3.one (eN:=[.bp 0 0]) (P:=MJ z (fn b)) (d b o l) N h Z Z Z (fun P t d=>?_);unfold MJ at d;split at d
 ·rename_i K c s;obtain⟨rfl,B,k,rfl⟩:=d;exact j K B c s k
 ·rename_i f n s;obtain⟨c,rfl,rfl⟩:=d;exact p f n c s
theorem na.up{fn:Nat->PR Ex}{lo b:Nat}(f:na G fn z lo)(d:lo<=b):na G fn z b:=
 ⟨fun e i h c=>f.lt e i h (YC d c),fun e c=>f.call e (YC d c)⟩
variable{I:PR Ex}
theorem ei(c:I=.ok w q)(b:hY w u):Ip z I (.ret (.agg (u.map V.d))) [e8 z q]:=by
 subst c;exact⟨_,Z,yx 0 u,Z,Z,u,b,Z⟩
theorem cS{b:Nat}(c:I=.bad q L):Ip z I (.fO (fC q L)) [e8 z b]:=by
 subst c;exact⟨_,Z,Z,Z,b,Z,Z⟩
abbrev lw(l:iB)(b:List D):V:=.agg ((Cw l b).map V.d)
variable{H:List V}
theorem MK(j:(C.ff.get q).isSome=true)(f:D)(b:List iB)(s:eV b f)(R:b.length<4294967296){σ:VS} 
  (o:∀(n:Nat) (W:n<b.length) (p:List D),hU b[n].ty p->∀{K:cZ->VS->Prop},K (.ret (b0 false)) σ->b3 C cn q (lw b[n] p::H) σ K)
  {K:cZ->VS->Prop} (k:K (.ret (.d (.int .i64 (-1)))) σ):b3 C cn nF [.d f,.fn q [] H] σ K:=by
 refine cA ?_;cases s with
 |nil=>
  refine b5.loop ?_;exact k
 |ps O=>
  rename_i N B e h;have l:=O.len;refine b5.less (eh:=[(0,.d (.ps N B 8 e h)),(1,.fn q [] H),(7,b6 b.length),(8,b6 0)]) ⟨Z,Z,int_eq (by rw[l]),rfl,tv⟩ ?_;refine b5.iter (fun d:Nat=>[(0,.d (.ps N B 8 e h)),(1,.fn q [] H),(7,b6 b.length),(8,b6 d)]) (fun _=>σ) (fun d=>b.length-d) (fun d=>d<=b.length) ?_ 0 (Yr _);intro d T;apply aZ<;>intro x
  ·have c:d<b.length:=fq x;obtain⟨p,t,i⟩:=O.get c;obtain⟨P,U,tn,Q,S,rfl⟩:=i.eG;refine bZ Z ?_;refine b7 _ (by rw[cz];exact t) ?_;refine a8 j ?_;refine o d c _ i ?_;refine⟨d+1,c,by show b.length-(d+1)<b.length-d;omega,.same ⟨rfl,rfl,rfl,int_eq (cq om),tv⟩ rfl,rfl,rfl⟩
  ·exact k
theorem ma(c:(C.ff.get q).isSome=true)(f:D)(b:List iB)(d:eV b f)(h:b.length<4294967296){σ:VS} 
  (j:∀(i:Nat) (l:i<b.length) (k:List D),hU b[i].ty k->∀{K:cZ->VS->Prop},K (.ret (b0 false)) σ->b3 C cn q (lw b[i] k::H) σ K)
  {K:cZ->VS->Prop} (e:K (.ret (b0 false)) σ):b3 C cn ek [.d f,.fn q [] H] σ K:=by
 refine cA ?_;refine MK c f b d h j ?_;exact e
theorem xb(l:iB)(b:hU l.ty u){σ:VS}{K:cZ->VS->Prop}(c:K (.ret (cE l.n)) σ):b3 C cn iH [lw l u] σ K:=by
 obtain⟨e,d,tn,f,h,rfl⟩:=b.eG;refine cN (v:=cE l.n) ?_ Z Z c;refine cB ?_;exact a6 0 ⟨Z,Z⟩
theorem A7(f:D)(b:List iB)(t:eV b f)(g:b.length<4294967296)(B:lA iB.n b) 
  {σ:VS} {K:cZ->VS->Prop} (o:K (.ret (b6 0)) σ):b3 C cn n6 [.d f,.fn iH [] []] σ K:=by
 refine cA ?_;cases t with
 |nil=>
  refine b5.loop ?_;exact o
 |ps P=>
  rename_i W R i l;have p:=P.len;refine b5.less (eh:=[(0,.d (.ps W R 8 i l)),(1,.fn iH [] []),(5,b6 1)]) ⟨Z,Z,Z,tv⟩ ?_;refine b5.iter (fun c:Nat=>[(0,.d (.ps W R 8 i l)),(1,.fn iH [] []),(5,b6 c)]) (fun _=>σ) (fun c=>b.length-c) (fun c=>1<=c) ?_ 1 (Yo _);intro c N;apply aZ<;>intro Q
  ·have h:c<b.length:=p▸fq Q;obtain⟨u,O,n⟩:=P.get h;obtain⟨v,x,j⟩:=P.get (show c-1<b.length by omega);have e:cK (b[c-1]'om).n b[c].n=true:=B.lU (Yl om) (Yl h) om;obtain⟨Y,q,tn,a,m,rfl⟩:=n.eG;obtain⟨T,S,X,V,U,rfl⟩:=j.eG;have s:=ow (a:=c) N om;have d:=O;have k:=x;rw[<-cz]at d k;repeat first
    |refine bZ s ?_
    |refine bZ rfl ?_
    |refine b7 _ k ?_
    |refine b7 _ d ?_
    |refine b4 ?_
    |refine xb _ j ?_
    |refine xb _ n ?_
    |refine w3 _ _ ?_
   refine a1 (by rw[EV e];rfl) ?_;refine a1 (by rw[EV e];rfl) ?_;exact⟨c+1,by show 1<=c+1;omega,by show b.length-(c+1)<b.length-c;omega,.same ⟨rfl,rfl,int_eq (cq om),tv⟩ rfl,rfl,rfl⟩
  ·exact o
theorem rR(h:hU eM u):u=[.int .i64 0,.str [],.str [],.cC,.cC]∨∃d f e,u=[.int .i64 0,.str [],.str [],.cC,.ps d f 7 e []]:=by
 cases h with
 |mk c b=>
  obtain rfl:=c.cT;rcases b.cT with rfl|⟨d,f,e,rfl⟩
  ·exact .inl Z
  ·exact .inr ⟨d,f,e,Z⟩
theorem E4(c:hU eM u){σ:VS}{K:cZ->VS->Prop}(b:K (.ret (b0 true)) σ):b3 C cn pU [.agg (u.map V.d)] σ K:=by
 rcases rR c with rfl|⟨d,f,e,rfl⟩
 ·refine cN ?_ Z Z b;refine cB ?_;exact a6 0 ⟨Z,Z⟩
 ·refine cN ?_ Z Z b;refine cB ?_;exact a6 0 ⟨Z,Z⟩
theorem E5{t:Ty}(h:hU t u){σ:VS}{K:cZ->VS->Prop}(f:∀d,K (.ret (b0 d)) σ):b3 C cn pU [.agg (u.map V.d)] σ K:=by
 cases h with
 |mk c b=>
  rename_i o p l i e s n;refine b3.closed (P:=fun j=>∃d,j=.ret (b0 d)) ?_ rfl (fun j h=>by obtain⟨d,rfl⟩:=h;exact f d);refine cB ?_;cases c with
  |nil=>
   cases b with
   |nil=>
    repeat' (change hT _ _ _;first|refine a8 (by with_reducible assumption) ?_|refine a1 (by with_reducible assumption) ?_|refine aZ (fun _=>?_) (fun _=>?_))
    all_goals exact a6 0 ⟨rfl,rfl,_,rfl⟩
   |ps b=>
    repeat' (change hT _ _ _;first|refine a8 (by with_reducible assumption) ?_|refine a1 (by with_reducible assumption) ?_|refine aZ (fun _=>?_) (fun _=>?_))
    all_goals exact a6 0 ⟨rfl,rfl,_,rfl⟩
  |ps c k=>
   cases b with
   |nil=>
    repeat' (change hT _ _ _;first|refine a8 (by with_reducible assumption) ?_|refine a1 (by with_reducible assumption) ?_|refine aZ (fun _=>?_) (fun _=>?_))
    all_goals exact a6 0 ⟨rfl,rfl,_,rfl⟩
   |ps b=>
    repeat' (change hT _ _ _;first|refine a8 (by with_reducible assumption) ?_|refine a1 (by with_reducible assumption) ?_|refine aZ (fun _=>?_) (fun _=>?_))
    all_goals exact a6 0 ⟨rfl,rfl,_,rfl⟩
def Xz(d n:Nat)(c b:D):List V:=[b6 d,cE [],cE [],cE [],b6 n,.d c,.d .cC,.d b]
structure Mf (f:FuncId) (R:Rd) (p q k n:Nat) (P:D->D->Prop):Prop where
 call:∀(i:Nat) (σ:VS) (K:cZ->VS->Prop),nth σ i=some (e8 R p)->(∀ty kids,P ty kids->K (.ret (.agg (Xz k n ty kids))) (σ.set i (e8 R q)))->b3 C cn f [.bp i 0] σ K
def X0(i:Rd)(e h n:Nat)(j:D->D->Prop)(f:cZ)(d:List V):Prop:=d=xY i e/\∃c b,j c b/\f=.ret (.agg (Xz h n c b))
theorem Mf.of{f:FuncId}{p o s n:Nat}{t:D->D->Prop}(k:b3 C cn f [.bp 0 0] [e8 z p] fun j e=>∃b,e=[.box b]/\cX j=true/\gC 0 b=true/\X0 z o s n t j b):Mf f z p o s n t:=
 ⟨fun x B K d i=>b3.one (eN:=[.bp 0 0]) k x d rfl rfl rfl fun j b k=>by
  obtain⟨rfl,l,c,h,rfl⟩:=k;exact i l c h⟩
def opsL:List (List UInt8):=[[46],[40],[42],[43],[45],[43,43],[61,61],[61,61,61],[60],[97,110,100],[111,114]]
def WH(t:Tok):Bool:=opsL.all fun b=> !cD t b
variable{A:List UInt8}
theorem V8{t:Tok}(c:WH t=true)(b:A∈opsL):cD t A=false:=by
 have:=List.all_eq_true.1 c A b;simpa using this
theorem Pb(t:z.Wf)(l:q<z.ts.length)(c:List (List UInt8))(p:c.length<4294967296)(h:∀o∈c,cD (z.tok q) o=false)(j b f:Nat){σ:VS}{K:cZ->VS->Prop}(i:nth σ j=some (e8 z q))(k:K (.ret (.d (.int .i64 (-1)))) σ):
  b3 C cn ku [.d (.ps b 0 1 f (jJ c)),.fn jZ [.bp j 0] []] σ K:=by
 refine cA ?_;refine b5.less (eh:=[(0,.d (.ps b 0 1 f (jJ c))),(1,.fn jZ [.bp j 0] []),(7,b6 c.length),(8,b6 0)]) ⟨Z,Z,int_eq (by simp[jJ]),rfl,tv⟩ ?_;refine b5.iter (fun d:Nat=>[(0,.d (.ps b 0 1 f (jJ c))),(1,.fn jZ [.bp j 0] []),(7,b6 c.length),(8,b6 d)]) (fun _=>σ) (fun d=>c.length-d) (fun d=>d<=c.length) ?_ 0 (Yr _);intro d s;apply aZ<;>intro n
 ·have e:d<c.length:=fq n;refine bZ Z ?_;refine b7 [.str c[d]] (by rw[cz,jJ,List.getElem?_map,Yl e];rfl) ?_;refine tR z q (z.tok q) c[d] (b8 l) j i ?_;rw[h _ (Yq e)];refine⟨d+1,e,by show c.length-(d+1)<c.length-d;omega,.same ⟨rfl,rfl,rfl,int_eq (cq om),tv⟩ rfl,rfl,rfl⟩
 ·exact k
def Rg:Nat->Bool:=fun b=>Nat.beq b 6
theorem JQ{f:FuncId}{eN b:List V}{o:cU}{O:cZ->Prop}(n:b3 C cn f eN [o] fun e h=>h=[o]/\cX e=true/\O e)(k:Nat){σ:VS}{K:cZ->VS->Prop}(c:nth σ k=some o)(d:gY 0 o=true)(i:gC 1 eN=true)(x:b=iw (jO [k] σ.length) eN)(s:∀e,O e->K e σ):
  b3 C cn f b σ K:=by
 refine n.frame [k] Z sm (fun N D j=>?_) i x (fun B t j _=>?_)
 ·cases N with
  |zero=>
   obtain rfl:k=D:=by simpa using j
   exact⟨o,Z,by rw[<-cz,c,fT _ _ d],j2 _ _ d⟩
  |succ N=>simp at j
 ·obtain⟨rfl,l,p⟩:=j;rw[lT _ _ l];simp only[List.map_cons,List.map_nil,fT _ _ d,merge,YA];rw[tg c];exact s B p
def fm(b:List UInt8)(t:Int)(l:Bool)(c:Int):V:=.agg [cE b,.d (.int .i64 t),b0 l,.d (.int .i64 c)]
def Pc:List qx:=[⟨b6 0,fm [98] 0 false 0,0⟩,⟨b6 1,fm [120] 0 false 0,1⟩,⟨b6 2,fm [98] 0 false 0,2⟩,⟨b6 3,fm [110] 0 false 0,3⟩,⟨b6 4,fm [109,110] (-1) false 0,4⟩,
 ⟨b6 5,fm [] 0 true 0,5⟩,⟨b6 6,fm [110] 0 false 1,6⟩,⟨b6 7,fm [110] 0 false 1,7⟩,⟨b6 8,fm [116,111] 0 true 1,8⟩,⟨b6 9,fm [] 0 true 1,9⟩,
 ⟨b6 10,fm [110] 0 false 2,10⟩,⟨b6 11,fm [] 1 false 1,11⟩,⟨b6 12,fm [] 1 false 3,12⟩,⟨b6 13,fm [118] 1 true 1,13⟩,⟨b6 14,fm [] 1 false (-1),14⟩,
 ⟨b6 15,fm [110,120] 1 false 3,15⟩,⟨b6 16,fm [110] 0 false (-1),16⟩]
def E6:cU:=.map Pc 17
variable{J:Prop}
theorem fitAll (b:J:=by
 refine cB ?_;repeat' first|(change hT _ _ _;first|refine a8 (by with_reducible assumption) ?_|refine a1 (by with_reducible assumption) ?_|refine aZ (fun _=>?_) (fun _=>?_))|refine dV (args:=[.str _,.str _]) (x:=.bool true) rfl rfl ?_|refine dV (args:=[.str _,.str _]) (x:=.bool false) rfl rfl ?_|refine ML (by assumption) ?_|refine MM (by assumption) ?_|refine b5.loop ?_|refine cA ?_
 all_goals exact a6 0 ⟨rfl,rfl⟩):J:=b
structure kM (k:Nat) (labels:List iB):Prop where
 name:∀l∈labels,dp l.n=true
 Q9:lA iB.n labels
 var:∀l∈labels,if k=13 then dp l.v=true else l.v=[]
 ty:∀l∈labels,if k=8 then j4 l.ty else l.ty=eM/\l.oa=false
def xc(l:List iB):Nat:=(l.filter iB.oa).length
def y9:List (List UInt8):=[[43],[45],[42],[60],[61,61],[61,61,61],[43,43],[97,110,100],[111,114]]
def Hu:List (List UInt8):=[[110,111,116],[108,101,110,103,116,104]]
inductive gh:Ex->Prop
 |int {num:Int}:gh (.mk 0 [] [] [] num [] [] [])
 |text {x:List UInt8}:gh (.mk 1 [] [] x 0 [] [] [])
 |bool {b:Bool}:gh (.mk 2 [] [] [] (if b then 1 else 0) [] [] [])
 |loc {n:List UInt8} (hn:dp n=true):gh (.mk 3 [] n [] 0 [] [] [])
 |val {m n:List UInt8} {types:List Ty} (hm:m=[]∨dp m=true) (hn:dp n=true) (ht:∀t∈types,j4 t) (hv:m≠[]∨types≠[]):gh (.mk 4 m n [] 0 types [] [])
 |O3 {labels:List iB} {kids:List Ex} (hl:kM 5 labels) (hk:kids.length=labels.length):gh (.mk 5 [] [] [] 0 [] labels kids)
 |Rh {n:List UInt8} {x:Ex} (hn:dp n=true):gh (.mk 6 [] n [] 0 [] [] [x])
 |inj {n:List UInt8} {x:Ex} (hn:dp n=true):gh (.mk 7 [] n [] 0 [] [] [x])
 |func {labels:List iB} {kids:List Ex} (hl:kM 8 labels) (hk:kids.length=xc labels+1):gh (.mk 8 [] [] [] 0 [] labels kids)
 |call {labels:List iB} {kids:List Ex} (hl:kM 9 labels) (hk:kids.length=labels.length+1):gh (.mk 9 [] [] [] 0 [] labels kids)
 |Ri {n:List UInt8} {x y:Ex} (hn:dp n=true):gh (.mk 10 [] n [] 0 [] [] [x,y])
 |V9 {t:Ty} {x:Ex} (ht:j4 t):gh (.mk 11 [] [] [] 0 [t] [] [x])
 |cond {t:Ty} {x y z:Ex} (ht:j4 t):gh (.mk 12 [] [] [] 0 [t] [] [x,y,z])
 |Uu {t:Ty} {labels:List iB} {kids:List Ex} (ht:j4 t) (hl:kM 13 labels) (hk:kids.length=labels.length+1):gh (.mk 13 [] [] [] 0 [t] labels kids)
 |Wa {t:Ty} {kids:List Ex} (ht:j4 t):gh (.mk 14 [] [] [] 0 [t] [] kids)
 |fold {n v:List UInt8} {t:Ty} {x y z:Ex} (ht:j4 t) (hn:dp n=true) (hv:dp v=true):gh (.mk 15 [] n v 0 [t] [] [x,y,z])
 |one {n:List UInt8} {x:Ex} (hn:n∈Hu):gh (.mk 16 [] n [] 0 [] [] [x])
 |two {n:List UInt8} {x y:Ex} (hn:n∈y9):gh (.mk 16 [] n [] 0 [] [] [x,y])
theorem Rj{s:List UInt8}(b:dp s=true):(!decide (s=[]))=true:=by
 cases s with
 |nil=>cases b
 |cons c d=>rfl
def Pd(h:Nat)(i n f:List UInt8)(b:Int)(d e c:D):V:=.agg (kt h i n f b d e c)
theorem fM.one(b:fM [w] g):∃d f e c,g=.ps d f 8 e [c]:=by
 cases b with|ps b=>cases b with|cons _ b=>cases b;exact⟨_,_,_,_,rfl⟩
theorem fM.two(b:fM [w,M] g):∃d f e c h,g=.ps d f 8 e [c,h]:=by
 cases b with|ps b=>cases b with|cons _ b=>cases b with|cons _ b=>cases b;exact⟨_,_,_,_,_,rfl⟩
theorem fM.three{e:Ex}(b:fM [w,M,e] g):∃f i h c j d,g=.ps f i 8 h [c,j,d]:=by
 cases b with|ps b=>cases b with|cons _ b=>cases b with|cons _ b=>cases b with|cons _ b=>cases b;exact⟨_,_,_,_,_,_,rfl⟩
theorem eV.cT(b:eV [] g):g=.cC∨∃c e d,g=.ps c e 8 d []:=by
 cases b with
 |nil=>exact .inl rfl
 |ps b=>cases b;exact .inr ⟨_,_,_,rfl⟩
theorem fM.cT(b:fM [] g):g=.cC∨∃c e d,g=.ps c e 8 d []:=by
 cases b with
 |nil=>exact .inl rfl
 |ps b=>cases b;exact .inr ⟨_,_,_,rfl⟩
theorem ML{n:List UInt8}(c:n∈y9){σ:VS}{K:cZ->VS->Prop}(b:K (.ret (b6 2)) σ):b3 C cn pW [cE n] σ K:=by
 simp only[y9,YB,List.not_mem_nil,or_false]at c;rcases c with rfl|rfl|rfl|rfl|rfl|rfl|rfl|rfl|rfl;all_goals refine cA ?_;exact b
theorem MM{n:List UInt8}(c:n∈Hu){σ:VS}{K:cZ->VS->Prop}(b:K (.ret (b6 1)) σ):b3 C cn pW [cE n] σ K:=by
 simp only[Hu,YB,List.not_mem_nil,or_false]at c;rcases c with rfl|rfl;all_goals refine cA ?_;exact b
def gy(k:Nat)(l n i:List UInt8)(b:Int)(e h d:D)(f:V):Prop:=b3 C cn Cm [Pd k l n i b e h d,f] [] fun j c=>c=[]/\j=.ret (b0 true)
theorem fits_int(b:Int)(d:eV [] g)(c:fM [] r):gy 0 [] [] [] b .cC g r (fm [98] 0 false 0):=by
 unfold gy;rcases d.cT with rfl|⟨f,k,j,rfl⟩<;>rcases c.cT with rfl|⟨h,i,e,rfl⟩<;>exact fitAll
theorem MN(x:List UInt8)(c:eV [] g)(b:fM [] r):gy 1 [] [] x 0 .cC g r (fm [120] 0 false 0):=by
 unfold gy;rcases c.cT with rfl|⟨e,j,i,rfl⟩<;>rcases b.cT with rfl|⟨f,h,d,rfl⟩<;>exact fitAll
theorem fits_bool(b:Bool)(d:eV [] g)(c:fM [] r):gy 2 [] [] [] (if b then 1 else 0) .cC g r (fm [98] 0 false 0):=by
 cases b;all_goals
  unfold gy;rcases d.cT with rfl|⟨f,k,j,rfl⟩<;>rcases c.cT with rfl|⟨h,i,e,rfl⟩<;>exact fitAll
theorem Pe(n:List UInt8)(c:eV [] g)(b:fM [] r):gy 3 [] n [] 0 .cC g r (fm [110] 0 false 0):=by
 unfold gy;rcases c.cT with rfl|⟨e,j,i,rfl⟩<;>rcases b.cT with rfl|⟨f,h,d,rfl⟩<;>exact fitAll
theorem Pf(h n:List UInt8)(d:D)(c:eV [] g)(b:fM [] r):gy 4 h n [] 0 d g r (fm [109,110] (-1) false 0):=by
 unfold gy;rcases c.cT with rfl|⟨f,l,k,rfl⟩<;>rcases b.cT with rfl|⟨i,j,e,rfl⟩<;>exact fitAll
theorem MO(n:List UInt8){x:Ex}(c:eV [] g)(b:fM [x] r):gy 6 [] n [] 0 .cC g r (fm [110] 0 false 1):=by
 unfold gy;rcases c.cT with rfl|⟨e,j,i,rfl⟩<;>obtain⟨f,h,d,d1,rfl⟩:=b.one<;>exact fitAll
theorem Pg(n:List UInt8){x:Ex}(c:eV [] g)(b:fM [x] r):gy 7 [] n [] 0 .cC g r (fm [110] 0 false 1):=by
 unfold gy;rcases c.cT with rfl|⟨e,j,i,rfl⟩<;>obtain⟨f,h,d,d1,rfl⟩:=b.one<;>exact fitAll
theorem MP(n:List UInt8){x d:Ex}(c:eV [] g)(b:fM [x,d] r):gy 10 [] n [] 0 .cC g r (fm [110] 0 false 2):=by
 unfold gy;rcases c.cT with rfl|⟨f,k,j,rfl⟩<;>obtain⟨h,i,e,d1,d2,rfl⟩:=b.two<;>exact fitAll
theorem Ph{t:Ty}(d:fK [t] g){x:Ex}(c:eV [] r)(b:fM [x] v):gy 11 [] [] [] 0 g r v (fm [] 1 false 1):=by
 unfold gy;rcases c.cT with rfl|⟨f,o,n,rfl⟩<;>obtain⟨j,l,e,d1,rfl⟩:=b.one<;>obtain⟨k,h,i,d0,rfl⟩:=d.lY<;>exact fitAll
theorem MQ{t:Ty}(c:fK [t] g){x e h:Ex}(b:eV [] r)(d:fM [x,e,h] v):gy 12 [] [] [] 0 g r v (fm [] 1 false 3):=by
 unfold gy;rcases b.cT with rfl|⟨i,s,p,rfl⟩<;>obtain⟨l,o,f,d1,d2,d3,rfl⟩:=d.three<;>obtain⟨n,j,k,d0,rfl⟩:=c.lY<;>exact fitAll
theorem Pj{t:Ty}(c:fK [t] g)(b:eV [] r)(d:fM F v):gy 14 [] [] [] 0 g r v (fm [] 1 false (-1)):=by
 unfold gy;rcases b.cT with rfl|⟨e,k,j,rfl⟩<;>obtain⟨i,f,h,d0,rfl⟩:=c.lY<;>exact fitAll
theorem MR{t:Ty}(n l:List UInt8)(c:fK [t] g){x e h:Ex}(b:eV [] r)(d:fM [x,e,h] v):gy 15 [] n l 0 g r v (fm [110,120] 1 false 3):=by
 unfold gy;rcases b.cT with rfl|⟨i,C,B,rfl⟩<;>obtain⟨o,s,f,d1,d2,d3,rfl⟩:=d.three<;>obtain⟨p,j,k,d0,rfl⟩:=c.lY<;>exact fitAll
theorem Pk{n:List UInt8}(j:n∈Hu){x:Ex}(c:eV [] g)(b:fM [x] r):gy 16 [] n [] 0 .cC g r (fm [110] 0 false (-1)):=by
 unfold gy;rcases c.cT with rfl|⟨e,k,h,rfl⟩<;>obtain⟨f,i,d,d1,rfl⟩:=b.one<;>exact fitAll
theorem Pl{n:List UInt8}(k:n∈y9){x d:Ex}(c:eV [] g)(b:fM [x,d] r):gy 16 [] n [] 0 .cC g r (fm [110] 0 false (-1)):=by
 unfold gy;rcases c.cT with rfl|⟨f,l,i,rfl⟩<;>obtain⟨h,j,e,d1,d2,rfl⟩:=b.two<;>exact fitAll
theorem A8(c:dp A=true){σ:VS}{K:cZ->VS->Prop}(b:K (.ret (b0 true)) σ):b3 C cn sZ [cE A] σ K:=
 nq A (jw c) (by rw[c];exact b)
def rS(k:Nat)(l n i:List UInt8)(b:Int)(e h d:D)(f:V):Prop:=b3 C cn wG [Pd k l n i b e h d,f] [] fun j c=>c=[]/\j=.ret (b0 false)
theorem nw (b:J:=by
 have X1:=hw.name;have X2:=hw.var;unfold rS;refine cB ?_;repeat' first|(change hT _ _ _;first|refine a8 (by with_reducible assumption) ?_|refine a1 (by with_reducible assumption) ?_)|refine dV (args:=[.str _,.str _]) (x:=.bool true) rfl rfl ?_|refine dV (args:=[.str _,.str _]) (x:=.bool false) rfl rfl ?_|refine A8 (by assumption) ?_|refine lu _ (by assumption) ?_|(show b3 C cn nN _ _ _;refine cA ?_)
 refine ma Z _ labels hl hlen (fun j hj d hd K hk=>?_) ?_
 ·obtain⟨tk,tm,tn,ta,tf,rfl⟩:=hd.eG;have Yj:=X1 _ (List.getElem_mem hj);have X3:=X2 _ (List.getElem_mem hj);simp at X3;refine cB ?_;repeat' first|(change hT _ _ _;first|refine a8 (by with_reducible assumption) ?_|refine a1 (by with_reducible assumption) ?_)|refine dV (args:=[.str _,.str _]) (x:=.bool true) rfl rfl ?_|refine dV (args:=[.str _,.str _]) (x:=.bool false) rfl rfl ?_|refine A8 (by assumption) ?_|refine lu _ (by assumption) ?_|(show b3 C cn nN _ _ _;refine cA ?_)
  exact a6 3 hk
 ·exact a6 0 ⟨Z,Z⟩):J:=b
theorem U3{x:List UInt8}{labels:List iB}(hl:eV labels r)(hlen:labels.length<4294967296)(hw:kM 0 labels):rS 0 [] [] x m g r v (fm [98] 0 false 0):=by
 exact nw
theorem U4{x:List UInt8}{labels:List iB}(hl:eV labels r)(hlen:labels.length<4294967296)(hw:kM 1 labels):rS 1 [] [] x m g r v (fm [120] 0 false 0):=by
 exact nw
theorem U5{x:List UInt8}{labels:List iB}(hl:eV labels r)(hlen:labels.length<4294967296)(hw:kM 2 labels):rS 2 [] [] x m g r v (fm [98] 0 false 0):=by
 exact nw
theorem U6{n x:List UInt8}{labels:List iB}(b:dp n=true)(hl:eV labels r)(hlen:labels.length<4294967296)(hw:kM 3 labels):rS 3 [] n x m g r v (fm [110] 0 false 0):=by
 exact nw
theorem U7{b n x:List UInt8}{labels:List iB}(c:b=[]∨dp b=true)(d:dp n=true)(hl:eV labels r)(hlen:labels.length<4294967296)(hw:kM 4 labels):rS 4 b n x m g r v (fm [109,110] (-1) false 0):=by
 exact nw
theorem U8{x:List UInt8}{labels:List iB}(hl:eV labels r)(hlen:labels.length<4294967296)(hw:kM 5 labels):rS 5 [] [] x m g r v (fm [] 0 true 0):=by
 exact nw
theorem U9{n x:List UInt8}{labels:List iB}(b:dp n=true)(hl:eV labels r)(hlen:labels.length<4294967296)(hw:kM 6 labels):rS 6 [] n x m g r v (fm [110] 0 false 1):=by
 exact nw
theorem Va{n x:List UInt8}{labels:List iB}(b:dp n=true)(hl:eV labels r)(hlen:labels.length<4294967296)(hw:kM 7 labels):rS 7 [] n x m g r v (fm [110] 0 false 1):=by
 exact nw
theorem Vb{x:List UInt8}{labels:List iB}(hl:eV labels r)(hlen:labels.length<4294967296)(hw:kM 8 labels):rS 8 [] [] x m g r v (fm [116,111] 0 true 1):=by
 exact nw
theorem Vc{x:List UInt8}{labels:List iB}(hl:eV labels r)(hlen:labels.length<4294967296)(hw:kM 9 labels):rS 9 [] [] x m g r v (fm [] 0 true 1):=by
 exact nw
theorem TD{n x:List UInt8}{labels:List iB}(b:dp n=true)(hl:eV labels r)(hlen:labels.length<4294967296)(hw:kM 10 labels):rS 10 [] n x m g r v (fm [110] 0 false 2):=by
 exact nw
theorem TE{x:List UInt8}{labels:List iB}(hl:eV labels r)(hlen:labels.length<4294967296)(hw:kM 11 labels):rS 11 [] [] x m g r v (fm [] 1 false 1):=by
 exact nw
theorem TF{x:List UInt8}{labels:List iB}(hl:eV labels r)(hlen:labels.length<4294967296)(hw:kM 12 labels):rS 12 [] [] x m g r v (fm [] 1 false 3):=by
 exact nw
theorem TG{x:List UInt8}{labels:List iB}(hl:eV labels r)(hlen:labels.length<4294967296)(hw:kM 13 labels):rS 13 [] [] x m g r v (fm [118] 1 true 1):=by
 exact nw
theorem TH{x:List UInt8}{labels:List iB}(hl:eV labels r)(hlen:labels.length<4294967296)(hw:kM 14 labels):rS 14 [] [] x m g r v (fm [] 1 false (-1)):=by
 exact nw
theorem TJ{n x:List UInt8}{labels:List iB}(c:dp n=true)(b:dp x=true)(hl:eV labels r)(hlen:labels.length<4294967296)(hw:kM 15 labels):rS 15 [] n x m g r v (fm [110,120] 1 false 3):=by
 exact nw
theorem Pm{n x:List UInt8}{labels:List iB}(hl:eV labels r)(hlen:labels.length<4294967296)(hw:kM 16 labels):rS 16 [] n x m g r v (fm [110] 0 false (-1)):=by
 exact nw
variable{E:List iB}
theorem A9{k:Nat}(e:k≠16)(i:k≠8){N n b s:List UInt8}{c t:Int}{l:Bool}(j:eV E r)(h:E.length<4294967296)(B:q<4:=by decide):
  b3 C cn uX [Pd k N n b c g r v,fm s t l (Yp q)] [] fun K f=>f=[]/\K=.ret (b6 (q+E.length)):=by
 have x:decide (Yp k=16)=false:=decide_eq_false fun o=>e (by simp only[Yt]at o;omega);have O:decide (Yp k=8)=false:=decide_eq_false fun o=>i (by simp only[Yt]at o;omega);refine cB ?_;have p:decide (Yp q<0)=false:=decide_eq_false (by simp only[Yt];omega);repeat refine e4 ?_
 cases j with
 |nil=>exact a6 0 ⟨rfl,congrArg (fun b=>cZ.ret (V.d (D.int .i64 b))) (eb (b:=0) om)⟩
 |ps P=>
  have d:=P.len;exact a6 0 ⟨Z,congrArg (fun b=>cZ.ret (V.d (D.int .i64 b))) ((eb om).trans (by rw[d]))⟩
theorem x5{l:List iB}(b:q<l.length):xc (l.take (q+1))=xc (l.take q)+if l[q].oa then 1 else 0:=by
 rw[Ys,Yl b,xc,xc,List.filter_append,Yv];simp only[YG,List.filter_cons,List.filter_nil];split<;>simp
theorem E7(l:List iB):xc l<=l.length:=List.length_filter_le _ _
theorem MS{R n Q s:List UInt8}{h t:Int}{l:Bool}(N:eV E r)(K:E.length<4294967296):
  b3 C cn uX [Pd 8 R n Q h g r v,fm s t l m] [] fun T o=>o=[]/\T=.ret (b6 (xc E+1)):=by
 refine cB ?_;cases N with
 |nil=>
  refine b5.loop ?_;exact a6 0 ⟨Z,Z⟩
 |ps S=>
  rename_i O B e f;have j:=S.len;refine b5.less (eh:=[(5,b6 1),(20,.d (.ps O B 8 e f)),(21,b6 E.length),(22,b6 0)]) ⟨Z,Z,int_eq (by rw[j]),rfl,tv⟩ ?_;refine b5.iter (fun c:Nat=>[(5,b6 (xc (E.take c)+1)),(20,.d (.ps O B 8 e f)),(21,b6 E.length),(22,b6 c)]) (fun _=>[.box (kt 8 R n Q h g (.ps O B 8 e f) v),.box [cE s,.d (.int .i64 t),b0 l,.d (.int .i64 m)]]) (fun c=>E.length-c) (fun c=>c<=E.length) ?_ 0 (Yr _);intro c X;apply aZ<;>intro x
  ·have b:c<E.length:=fq x;obtain⟨a,P,p⟩:=S.get b;obtain⟨U,Y,tn,V,W,rfl⟩:=p.eG;have d:=x5 b;have i:=E7 (E.take c);rw[Yy]at i;refine bZ Z ?_;refine b7 _ (by rw[cz];exact P) ?_;apply aZ<;>intro k
   ·rw[k]at d;refine⟨c+1,b,by show E.length-(c+1)<E.length-c;omega,.drop 2 ⟨int_eq ?_,rfl,rfl,int_eq (cq om),tv⟩ rfl rfl rfl rfl rfl rfl rfl,rfl,rfl⟩;rw[d];exact cq om
   ·rw[k]at d;refine⟨c+1,b,by show E.length-(c+1)<E.length-c;omega,.drop 2 ⟨int_eq ?_,rfl,rfl,int_eq (cq om),tv⟩ rfl rfl rfl rfl rfl rfl rfl,rfl,rfl⟩;rw[d];rfl
  ·have b:E.length<=c:=dM x;rw[Ym b];exact a6 0 ⟨Z,Z⟩
end Go.Proofs.YthlkhjchcjflkaaGreatDoor
