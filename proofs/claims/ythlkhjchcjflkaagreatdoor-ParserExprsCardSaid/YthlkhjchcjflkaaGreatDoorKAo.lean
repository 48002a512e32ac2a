/- Part of the proof. -/
import Derived.Test.YthlkhjchcjflkaaGreatDoorKAn
set_option linter.all false
set_option maxHeartbeats 16000000
set_option maxRecDepth 100000
open List renaming getElem?_eq_getElem->Yl,append_assoc->Yn,take_append_drop->Yq,eq_nil_of_length_eq_zero->Yr,length_append->Ys,getElem?_append_right->Yt,nodup_append->Yu,nil_append->Yw,map_append->Yx,cons_append->Yy,getElem?_eq_some_iff->Yz,drop_eq_getElem_cons->YA,pairwise_cons->YB,getElem?_append_left->YC,mem_map_of_mem->YD,map_cons->YE,take_of_length_le->YF,take_add_one->YG,set_append_right->YI,getElem?_eq_none->YJ,pairwise_append->YK,getElem?_set_ne->YL,getElem?_of_mem->YM,mem_cons->YN,getElem_mem->YR,drop_of_length_le->YS,mem_map->YV,map->YW,mem_append->YX,append_nil->YY,map_map->Y3,map_congr_left->Y4,set_cons_zero->Y5,getElem?_take->Y6,getElem?_drop->Y7
open Int renaming ofNat->Ym,ofNat_eq_natCast->Yp,fdiv->YZ
open Nat renaming zero_add->Yo,le_refl->Yv,sub_eq_zero_of_le->YH,sub_pos_of_lt->YO,lt_irrefl->YQ,zero_le->YT,beq->YU,sub_self->Y0,lt_or_ge->Y1,le_of_ble_eq_true->Y2
open Bool renaming eq_false_iff->YP
namespace Go.Proofs.YthlkhjchcjflkaaGreatDoor
open Go.AM Go.VM
inductive Ty where
 |mk (kind:Nat) (mod name:List UInt8) (args:List Ty) (fields:List (List UInt8×Ty×Bool))
mutual
inductive hU:Ty->List D->Prop
 |mk {k:Nat} {m n:List UInt8} {args:List Ty} {fields:List (List UInt8×Ty×Bool)} {a f:D} (ha:fK args a) (hf:eP fields f):hU (.mk k m n args fields) [.int .i64 (Ym k),.str m,.str n,a,f]
inductive fK:List Ty->D->Prop
 |nil:fK [] .cC
 |ps {b o cap:Nat} {l:List Ty} {els:List (List D)} (h:eX l els) (Yi:els≠[]):fK l (.ps b o 5 cap els)
inductive eX:List Ty->List (List D)->Prop
 |nil:eX [] []
 |cons {t:Ty} {d:List D} {l:List Ty} {els:List (List D)} (h:hU t d) (hl:eX l els):eX (t::l) (d::els)
inductive eP:List (List UInt8×Ty×Bool)->D->Prop
 |nil:eP [] .cC
 |ps {b o cap:Nat} {l:List (List UInt8×Ty×Bool)} {els:List (List D)} (h:EH l els):eP l (.ps b o 7 cap els)
inductive EH:List (List UInt8×Ty×Bool)->List (List D)->Prop
 |nil:EH [] []
 |cons {n:List UInt8} {t:Ty} {o:Bool} {d:List D} {l:List (List UInt8×Ty×Bool)} {els:List (List D)} (h:hU t d) (hl:EH l els):EH ((n,t,o)::l) ((.str n::d++[.bool o])::els)
end
theorem eX.snoc{l:List Ty}{a:List (List D)}{t:Ty}{f:List D}(g:eX l a)(e:hU t f):eX (l++[t]) (a++[f]):=by
 induction l generalizing a with
 |nil=>cases g;exact .cons e .nil
 |cons h l b=>cases g with|cons d c=>exact .cons d (b c)
theorem hU.eG{t:Ty}{a:List D}(e:hU t a):∃g h d i b,a=[.int .i64 (Ym g),.str h,.str d,i,b]:=by
 cases e with|mk f c=>exact⟨_,_,_,_,_,rfl⟩
structure fU (ty:Nat->PR Ty) (R:Rd) (lo:Nat):Prop where
 lt:∀p t q,lo<=p->p<R.ts.length->ty p=.ok t q->p<q/\q<R.ts.length
 call:∀p,lo<=p->p<R.ts.length->∀(i:Nat) (σ:VS) (K:cZ->VS->Prop),nth σ i=some (e8 R p)->(∀t d q,ty p=.ok t q->hU t d->K (.ret (.agg (d.map V.d))) (σ.set i (e8 R q)))->
  (∀off e q,ty p=.bad off e->K (.fO (fC off e)) (σ.set i (e8 R q)))->b3 C cn dI [.bp i 0] σ K
def ec(b:Nat->PR Ty)(g:Rd):Nat->List Ty->Nat->PR (List Ty)
 |0,_,_=>.bad 0 3
 |f+1,a,j=>match b j with
  |.bad e c=>.bad e c
  |.ok i d=>if cD (g.tok d) [44]then ec b g f (a++[i]) (d+1)else match cv g [[93]] d with
   |.ok _ h=>.ok (a++[i]) h
   |.bad e c=>.bad e c
def fA(b:Nat->PR Ty)(a:Rd)(p:Nat):PR (List Ty):=if cD (a.tok p) [91]then ec b a a.ts.length [] (p+1)else .ok [] p
def Wv(b:Rd)(p:Nat):List (List D)->VS
 |[]=>[e8 b p,.box [.bp 0 0],.box [.d .cC]]
 |e::a=>[e8 b p,.box [.bp 0 0],.box [.ms 3 5 0 (a.length+1) (a.length+1)],.row 5 ((e::a).map fun c=>c.map V.d)]
def vu:List V:=[.d (.int .i64 0),.d (.str []),.d (.str []),.d .cC,.d .cC]
def Te:Nat->Bool:=fun a=>YU a 5||YU a 13
def Ss:Nat->Bool:=fun a=>YU a 6
theorem EI{a n c:Nat}(e:c<=a)(b:a<4294967296)(d:n=1):(c+n)*88<=eE/\c+n<=eE:=by
 unfold eE;omega
theorem OO(a:List D):q7 (a.map V.d)=some a:=by
 induction a with
 |nil=>rfl
 |cons c a b=>simp only[YE,q7,b]
theorem ed(a:List (List D)):pC (a.map fun c=>c.map V.d)=some a:=by
 induction a with
 |nil=>rfl
 |cons e d b=>simp only[YE,pC,OO,b]
def G2(f:Rd)(h:PR (List Ty))(e:cZ)(a:VS):Prop:=match h with
 |.ok i c=>a=[e8 f c]/\∃d,fK i d/\e=.ret (.d d)
 |.bad b g=>∃c,a=[e8 f c]/\e=.fO (fC b g)
theorem G3{h:Rd}{f:Nat}{b:VS}{l:List Ty}{els:List (List D)}{k:PR (List Ty)}(a n:Nat)(d:n=els.length)(g:nth b a=some (.row 5 (els.map fun m=>m.map V.d)))(i:eX l els)(c:els≠[])(j:k=.ok l f):
  cR 1 (.ret (.ms (a+1) 5 0 n n)) (e8 h f::b) (G2 h k):=by
 subst j;refine cR.freeze (a+1) (es:=5) (l:=els) g (ed els) (fun _=>⟨Z,by simp[d]⟩) (fun e=>?_);have p:sU (a+1) e els (.ret (.ms (a+1) 5 0 n n))=.ret (.d (.ps e (0*5) 5 n els)):=by
  show cZ.ret (iW (a+1) e els (.ms (a+1) 5 0 n n))=_;rw[iW,gE];show cZ.ret (.d (.ps e (0*5) 5 n ((els.drop 0).take n)))=_;rw[gD _ _ d]
 rw[p];refine cR.drop 1 Z (by show(gY 1 (e8 h f)&&mZ 1 (b.set a .gone) 0)=true;rw[mZ];rfl) rfl (cR.now rfl ?_);exact⟨Z,_,.ps i c,Z⟩
theorem OP(b:Nat->Nat)(a:List D):iw b (a.map V.d)=a.map V.d:=by
 induction a with
 |nil=>rfl
 |cons d a c=>simp only[YE,iw,iv,c]
theorem yx(c:Nat)(a:List D):gC c (a.map V.d)=true:=by
 induction a with
 |nil=>rfl
 |cons d a b=>simp only[YE,gC,bd,b];rfl
theorem mM(c:Nat->Nat)(es:Nat)(a:List (List D)):eC c (.row es (a.map fun b=>b.map V.d))=.row es (a.map fun b=>b.map V.d):=by
 simp only[eC,Y3];congr 1;exact Y4 fun b _=>OP c b
theorem fs(c es:Nat)(a:List (List D)):gY c (.row es (a.map fun b=>b.map V.d))=true:=by
 simp only[gY,List.all_eq_true,YV];rintro _ ⟨b,_,rfl⟩;exact yx c b
theorem QZ(c es:Nat)(a:List (List D))(b:List D):some (cU.box [.ms c es 0 (a.length+1+1) (a.length+1+1)])=some (cU.box [.ms c es 0 ((a++[b]).length+1) ((a++[b]).length+1)]):=by simp
theorem JC(a:List (List D)):a.length+1<a.length+1+1:=Nat.lt_succ_self _
theorem AP(a:List D)(b:List (List D)):nth (List.take (b.length+1) (List.drop 0 (YW (fun c=>YW V.d c) (a::b)))++[vu]) (0+(b.length+1))=some vu:=by
 rw[cz,Yt sm];simp
theorem G4(b:List D)(c:List (List D))(a:List D):(List.take (c.length+1) (List.drop 0 (YW (fun a=>YW V.d a) (b::c)))++[vu]).set (0+(c.length+1)) (a.map V.d)=YW (fun a=>YW V.d a) (b::(c++[a])):=by
 rw[List.drop_zero,YF sm,YI _ _ sm];simp
theorem JD(b:Rd)(J:b.Wf)(d:Nat->PR Ty)(p:Nat)(I:p<b.ts.length)(A:fU d b p):
  b3 C cn uW [.bp 0 0] [e8 b p] (G2 b (fA d b p)):=by
 have N:=J.len;refine cB ?_;refine tR b p (b.tok p) [91] (b8 I) 0 Z ?_;apply aZ<;>intro L
 ·have O:=J.step I L;refine b3.body Te (fun _=>Z) ?_;intro T;refine eU b J [[91]] dc p I _ _ 0 Z ?_;rw[cv,if_pos L,cv];refine b5.less (eh:=[(0,.bp 0 0),(1,.fn sb [] [.bp 2 0,.bp 1 0])]) ⟨Z,Z,tv⟩ ?_;refine b5.iter (fun _:Nat×List Ty×List (List D)=>[(0,.bp 0 0),(1,.fn sb [] [.bp 2 0,.bp 1 0])]) (fun f=>Wv b f.1 f.2.2) (fun f=>b.ts.length-f.1)
   (fun f=>p<f.1/\f.1<b.ts.length/\f.2.2.length<=f.1/\eX f.2.1 f.2.2/\∃l,b.ts.length-f.1<=l/\ec d b b.ts.length [] (p+1)=ec d b l f.2.1 f.1) ?_ (p+1,[],[]) ⟨by show p<p+1;omega,O,YT _,.nil,_,by show b.ts.length-(p+1)<=b.ts.length;omega,rfl⟩
  rintro⟨r,y,h⟩ ⟨F,o,w,q,l,K,v⟩;have F:p<r:=F;have o:r<b.ts.length:=o;have w:h.length<=r:=w;have q:eX y h:=q;have K:b.ts.length-r<=l:=K;have v:ec d b b.ts.length [] (p+1)=ec d b l y r:=v;obtain⟨l,rfl⟩:∃z,l=z+1:=⟨l-1,om⟩;have n:fA d b p=ec d b (l+1) y r:=by rw[fA,if_pos L,v]
  rw[ec]at n;cases h with
  |nil=>
   refine b3.body Ss (fun _=>Z) ?_;intro Q;repeat refine b1 ?_
   refine A.call r om o 0 _ _ ?_ (fun B S a c i=>?_) (fun s R a c=>?_)
   ·exact Z
   ·obtain⟨z,H,G,E,g,rfl⟩:=i.eG;obtain⟨P,m⟩:=A.lt r B a om o c;repeat first
     |refine bZ rfl ?_
     |refine b4 ?_
    refine b7 vu Z ?_;refine dq b a (b.tok a) [44] (b8 m) om 0 ?_ (fun e=>?_) (fun e=>?_)
    ·exact Z
    ·refine⟨(a+1,y++[B],[[.int .i64 (Ym z),.str H,.str G,E,g]]),⟨by show p<a+1;omega,J.step m e,by show 1<=a+1;omega,q.snoc i,l,by show b.ts.length-(a+1)<=l;omega,?_⟩,?_,?_,rfl,rfl⟩
     ·show ec d b b.ts.length [] (p+1)=ec d b l (y++[B]) (a+1);rw[v,ec,c];simp only[e,if_true]
     ·show b.ts.length-(a+1)<b.ts.length-r;omega
     ·exact .same ⟨Z,Z,tv⟩ Z
    ·intro M;refine eU b J [[93]] dc a m _ _ 0 ?_ ?_
     ·exact Z
     ·cases u:cv b [[93]] a with
      |ok _ x=>
       refine G3 (l:=y++[B]) (els:=[[.int .i64 (Ym z),.str H,.str G,E,g]]) 2 1 Z Z (q.snoc i) sm ?_;rw[n,c];simp only[e,u];rfl
      |bad s R=>
       intro x;refine a6 1 ?_;rw[n,c];simp only[e,u];exact⟨x,Z,Z⟩
   ·refine a6 1 ?_;rw[n,c];exact⟨a,Z,Z⟩
  |cons j k=>
   refine b3.body Ss (fun _=>Z) ?_;intro Q;repeat refine b1 ?_
   refine A.call r om o 0 _ _ ?_ (fun B S a c i=>?_) (fun s R a c=>?_)
   ·exact Z
   ·obtain⟨z,H,G,E,g,rfl⟩:=i.eG;obtain⟨P,m⟩:=A.lt r B a om o c;have t:k.length+1<=r:=w;refine a7 ?_ ?_
    ·repeat' (first|exact tv|exact rfl|exact Yv _|exact(EI t om rfl).1|exact(EI t om rfl).2|(simp only[List.length_map,List.length_cons];omega)|refine bZ rfl ?_|refine And.intro ?_ ?_)
    refine a7 Z (a7 ⟨Z,Z,by simp,Yv _,EI t om rfl⟩ ?_);refine a1 Z (a1 (dZ (k.length+1)) ?_);refine a7 ?_ ?_
    ·repeat' (first|exact tv|exact rfl|exact Y2 rfl|refine bZ rfl ?_|refine b7 vu (AP j k) ?_|refine a7 (JC k) ?_|refine And.intro ?_ ?_)
    refine bZ Z ?_;refine a7 (JC k) ?_;refine a7 ?_ ?_
    ·repeat' (first|exact tv|exact rfl|exact Y2 rfl|refine bZ rfl ?_|refine b7 vu (AP j k) ?_|refine a7 (JC k) ?_|refine And.intro ?_ ?_)
    refine b7 vu (AP j k) ?_;refine dq b a (b.tok a) [44] (b8 m) om 0 ?_ (fun e=>?_) (fun e=>?_)
    ·exact Z
    ·refine⟨(a+1,y++[B],j::(k++[[.int .i64 (Ym z),.str H,.str G,E,g]])),⟨by show p<a+1;omega,J.step m e,by show(k++[_]).length+1<=a+1;simp;omega,q.snoc i,l,by show b.ts.length-(a+1)<=l;omega,?_⟩,?_,?_,rfl,rfl⟩
     ·show ec d b b.ts.length [] (p+1)=ec d b l (y++[B]) (a+1);rw[v,ec,c];simp only[e,if_true]
     ·show b.ts.length-(a+1)<b.ts.length-r;omega
     ·refine .pick 3 [0,1,2,4] ⟨Z,Z,tv⟩ Z Z Z Z Z dc ⟨Z,Z,Z,Z,?_,Z,?_,fs _ _ _,tv⟩
      ·exact QZ 4 5 k [.int .i64 (Ym z),.str H,.str G,E,g]
      ·rw[mM];exact congrArg (fun f=>some (cU.row 5 f)) (G4 j k [.int .i64 (Ym z),.str H,.str G,E,g])
    ·intro M;refine eU b J [[93]] dc a m _ _ 0 ?_ ?_
     ·exact Z
     ·cases u:cv b [[93]] a with
      |ok _ x=>
       refine G3 (l:=y++[B]) (els:=j::(k++[[.int .i64 (Ym z),.str H,.str G,E,g]])) 3 (k.length+1+1) sm ?_ (q.snoc i) sm ?_
       ·exact congrArg (fun f=>some (cU.row 5 f)) (G4 j k [.int .i64 (Ym z),.str H,.str G,E,g])
       ·rw[n,c];simp only[e,u];rfl
      |bad s R=>
       intro x;refine a6 1 ?_;rw[n,c];simp only[e,u];exact⟨x,Z,Z⟩
   ·refine a6 1 ?_;rw[n,c];exact⟨a,Z,Z⟩
 ·refine a6 1 ?_;rw[fA,if_neg (by rw[L];decide)];exact⟨Z,.cC,.nil,Z⟩
theorem ot(b:Rd)(z:b.Wf)(c:Nat->PR Ty)(p:Nat)(x:p<b.ts.length)(u:fU c b p)(n:Nat){σ:VS}{K:cZ->VS->Prop}(m:nth σ n=some (e8 b p)) 
  (w:∀q l d,fA c b p=.ok q d->fK q l->K (.ret (.d l)) (σ.set n (e8 b d))) (j:∀a i d,fA c b p=.bad a i->K (.fO (fC a i)) (σ.set n (e8 b d))):b3 C cn uW [.bp n 0] σ K:=by
 refine b3.one (eN:=[.bp 0 0]) (P:=fun s v=>G2 b (fA c b p) s [.box v]) ((JD b z c p x u).mono fun s y e=>?_) n m Z Z Z (fun s f e=>?_)
 ·have k:=e;unfold G2 at e;split at e
  ·obtain⟨rfl,l,j,rfl⟩:=e;exact⟨_,Z,Z,Z,k⟩
  ·obtain⟨d,rfl,rfl⟩:=e;exact⟨_,Z,Z,Z,k⟩
 ·unfold G2 at e;split at e
  ·rename_i q d i;obtain⟨g,l,r,rfl⟩:=e;have:f=xY b d:=by injection g with h;injection h
   subst this;exact w q l d i r
  ·rename_i a t i;obtain⟨d,g,rfl⟩:=e;have:f=xY b d:=by injection g with h;injection h
   subst this;exact j a t d i
def dl(d:Nat->PR Ty)(f:Rd)(p:Nat):PR Ty:=match cv f [[91]] p with
 |.bad a b=>.bad a b
 |.ok _ g=>match d g with
  |.bad a b=>.bad a b
  |.ok h c=>match cv f [[93]] c with
   |.bad a b=>.bad a b
   |.ok _ e=>.ok h e
def zt(f:Rd)(g:PR Ty)(e:cZ)(b:List V):Prop:=match g with
 |.ok h c=>b=xY f c/\∃d,hU h d/\e=.ret (.agg (d.map V.d))
 |.bad a i=>∃c,b=xY f c/\e=.fO (fC a i)
def Ww:Nat->Bool:=fun a=>YU a 5||YU a 10
theorem c9{f:Rd}:∀(b:List (List UInt8)) (d c:Nat),cv f b d=.ok () c->c=d+b.length:=by
 intro b;induction b with
 |nil=>intro d c a;cases a;rfl
 |cons s b e=>
  intro d c a;rw[cv]at a;split at a
  ·rw[e _ _ a,List.length_cons];omega
  ·cases a
theorem Cs(f:Rd)(s:f.Wf)(m:Nat->PR Ty)(p:Nat)(l:p<f.ts.length)(j:fU m f p):
  b3 C cn qI [.bp 0 0] [e8 f p] fun t n=>∃d,n=[.box d]/\cX t=true/\gC 0 d=true/\zt f (dl m f p) t d:=by
 refine cy Ww (fun _=>Z) ?_;intro E;refine eU f s [[91]] dc p l _ _ 0 Z ?_;cases b:cv f [[91]] p with
 |bad g u=>
  intro o;refine a6 1 ⟨_,Z,Z,Z,?_⟩;rw[dl,b];exact⟨o,Z,Z⟩
 |ok _ o=>
  have k:=dJ s _ _ _ l b;have a:=c9 _ _ _ b;have a:p<=o:=by rw[a];omega
  refine j.call o a k 0 _ _ ?_ (fun y B c e i=>?_) (fun g u c e=>?_)
  ·exact Z
  ·obtain⟨A,F,D,z,x,rfl⟩:=i.eG;obtain⟨w,r⟩:=j.lt o y c a k e;intro v;refine eU f s [[93]] dc c r _ _ 0 ?_ ?_
   ·exact Z
   ·cases h:cv f [[93]] c with
    |bad g u=>
     intro q;refine a6 1 ⟨_,Z,Z,Z,?_⟩;rw[dl,b];simp only[e,h];exact⟨q,Z,Z⟩
    |ok _ q=>
     refine a6 1 ⟨_,Z,Z,Z,?_⟩;rw[dl,b];simp only[e,h];exact⟨Z,_,i,Z⟩
  ·refine a6 1 ⟨_,Z,Z,Z,?_⟩;rw[dl,b];simp only[e];exact⟨c,Z,Z⟩
end Go.Proofs.YthlkhjchcjflkaaGreatDoor
namespace Go.VM
open Go.AM
theorem wT{a b:UInt8}{f e:List UInt8}:cK (a::f) (b::e)=true↔a.toNat<b.toNat∨(a=b/\cK f e=true):=by
 simp only[cK];rcases Nat.lt_trichotomy a.toNat b.toNat with h|h|h
 ·have:Nat.blt a.toNat b.toNat=true:=by simpa [Nat.blt_eq]using h
  simp only[this,true_iff];exact .inl h
 ·have i:a=b:=UInt8.toNat_inj.1 h;subst i;have:Nat.blt a.toNat a.toNat=false:=by rw[YP];intro h;rw[Nat.blt_eq]at h;omega
  simp only[this,Nat.beq_refl,YQ,false_or,true_and]
 ·have d:Nat.blt a.toNat b.toNat=false:=by rw[YP];intro h;rw[Nat.blt_eq]at h;omega
  have c:YU a.toNat b.toNat=false:=by rw[YP];intro h;rw[Nat.beq_eq]at h;omega
  simp only[d,c];constructor
  ·intro h;cases h
  ·rintro(g|⟨rfl,_⟩)
   ·omega
   ·omega
theorem EJ:∀a:List UInt8,cK a a=false:=by
 intro a;induction a with
 |nil=>rfl
 |cons d a c=>
  rw[YP];intro b;rcases wT.1 b with b|⟨_,b⟩
  ·omega
  ·rw[c]at b;cases b
theorem th:∀e d c:List UInt8,cK e d=true->cK d c=true->cK e c=true:=by
 intro e;induction e with
 |nil=>
  intro d c b a;cases c with
  |nil=>cases d<;>cases a
  |cons c g=>rfl
 |cons i e f=>
  intro d c b a;cases d with
  |nil=>cases b
  |cons h d=>
   cases c with
   |nil=>cases a
   |cons g c=>
    rw[wT]at b a⊢;rcases b with b|⟨rfl,b⟩<;>rcases a with a|⟨rfl,a⟩
    ·exact .inl om
    ·exact .inl b
    ·exact .inl a
    ·exact .inr ⟨Z,f _ _ b a⟩
theorem wU:∀c a:List UInt8,cK c a=false->c≠a->cK a c=true:=by
 intro c;induction c with
 |nil=>
  intro a b d;cases a with
  |nil=>exact absurd rfl d
  |cons e a=>cases b
 |cons g c i=>
  intro a b d;cases a with
  |nil=>rfl
  |cons e a=>
   rw[wT];have f:¬(g.toNat<e.toNat∨(g=e/\cK c a=true)):=fun j=>by rw[wT.2 j]at b;cases b
   by_cases h:g=e
   ·subst h;refine .inr ⟨Z,i a ?_ (fun h=>d (by rw[h]))⟩;cases k:cK c a with
    |false=>rfl
    |true=>exact absurd (.inr ⟨rfl,k⟩) f
   ·have:g.toNat≠e.toNat:=fun j=>h (UInt8.toNat_inj.1 j);exact .inl om
section
variable{α:Type} {key:α->List UInt8}
def lA(key:α->List UInt8)(l:List α):Prop:=l.Pairwise fun a b=>cK (key a) (key b)=true
theorem lA.Gc:∀{b a:List α},b.Perm a->lA key b->lA key a->b=a:=by
 intro b;induction b with
 |nil=>intro a e _ _;exact e.nil_eq
 |cons i n k=>
  intro a e m l;cases a with
  |nil=>exact absurd e.symm.nil_eq sm
  |cons h j=>
   have c:=YB.1 m;have d:=YB.1 l;have g:i=h:=by
    have m1:i∈h::j:=e.subset sm;have m2:h∈i::n:=e.symm.subset sm;rcases YN.1 m1 with g|m1
    ·exact g
    ·rcases YN.1 m2 with g|m2
     ·exact g.symm
     ·have f:=th _ _ _ (c.1 h m2) (d.1 i m1);rw[EJ]at f;cases f
   subst g;rw[k e.cons_inv c.2 d.2]
def jk(key:α->List UInt8)(a:α):List α->List α
 |[]=>[a]
 |x::b=>if cK (key x) (key a)then x::jk key a b else a::x::b
def ct(key:α->List UInt8)(l:List α):List α:=l.foldl (fun a b=>jk key b a) []
theorem tS(c:α):∀a:List α,(jk key c a).Perm (c::a):=by
 intro a;induction a with
 |nil=>exact .refl _
 |cons d e b=>
  simp only[jk];split
  ·exact(b.cons d).trans (.swap c d e)
  ·exact .refl _
theorem OQ{i:α}:∀{g:List α},lA key g->(∀h∈g,key h≠key i)->lA key (jk key i g):=by
 intro g;induction g with
 |nil=>intro _ _;exact List.pairwise_singleton _ _
 |cons h l j=>
  intro k e;have c:=YB.1 k;simp only[jk];split
  ·rename_i d;refine YB.2 ⟨fun f a=>?_,j c.2 (fun f a=>e f (by simp[a]))⟩;rcases YN.1 ((tS i l).subset a)with rfl|a
   ·exact d
   ·exact c.1 f a
  ·rename_i d;have b:cK (key i) (key h)=true:=wU _ _ (by simpa using d) (e h sm);refine YB.2 ⟨fun f a=>?_,k⟩;rcases YN.1 a with rfl|a
   ·exact b
   ·exact th _ _ _ b (c.1 f a)
theorem tj(l:List α)(a:α):ct key (l++[a])=jk key a (ct key l):=by
 simp[ct,List.foldl_append]
theorem EK:∀(c b:List α),(c.foldl (fun b d=>jk key d b) b).Perm (b++c):=by
 intro c;induction c with
 |nil=>intro b;simp
 |cons d c e=>
  intro b;refine(e _).trans ?_;refine((tS d b).append_right c).trans ?_;exact(List.perm_middle (l₁:=b) (l₂:=c) (a:=d)).symm
theorem G5:∀(c b:List α),lA key b->((b++c).map key).Nodup->lA key (c.foldl (fun b d=>jk key d b) b):=by
 intro c;induction c with
 |nil=>intro b h _;exact h
 |cons d c g=>
  intro b h e;refine g _ (OQ h fun k j i=>?_) ?_
  ·rw[Yx,Yu]at e;exact e.2.2 (key k) (YV.2 ⟨k,j,Z⟩) (key d) sm i
  ·have f:(b++d::c).Perm (jk key d b++c):=(List.perm_middle (l₁:=b) (l₂:=c) (a:=d)).trans ((tS d b).symm.append_right c);exact(f.map key).nodup_iff.1 e
theorem dC(l:List α):(ct key l).Perm l:=EK (key:=key) l []
theorem gF{l:List α}(a:(l.map key).Nodup):lA key (ct key l):=G5 l [] List.Pairwise.nil (by simpa using a)
theorem yy{l b:List α}(d:(l.map key).Nodup)(a:b.Perm l)(c:lA key b):b=ct key l:=
 lA.Gc (a.trans (dC l).symm) c (gF d)
theorem lA.lU{l:List α}(j:lA key l){e h:Nat}{i b:α}(c:l[e]?=some i)(g:l[h]?=some b)(a:e<h):cK (key i) (key b)=true:=by
 obtain⟨f,rfl⟩:=Yz.1 c;obtain⟨d,rfl⟩:=Yz.1 g;exact(List.pairwise_iff_getElem.1 j) e h f d a
theorem lA.le_of_le{l:List α}(h:lA key l){d e:Nat}{f b:α}(c:l[d]?=some f)(a:l[e]?=some b)(g:d<=e):f=b∨cK (key f) (key b)=true:=by
 rcases Y1 d e with h1|h1
 ·exact .inr (h.lU c a h1)
 ·obtain rfl:d=e:=om;rw[c]at a;cases a;exact .inl rfl
theorem Dc{g b c f:α}(h1:g=b∨cK (key g) (key b)=true)(d:cK (key b) (key c)=true)(a:c=f∨cK (key c) (key f)=true):cK (key g) (key f)=true:=by
 have e:cK (key b) (key f)=true:=by
  rcases a with rfl|a
  ·exact d
  ·exact th _ _ _ d a
 rcases h1 with rfl|h1
 ·exact e
 ·exact th _ _ _ h1 e
theorem Tf{j k:List α}(o:lA key j)(n:lA key k)(s t:Nat)(x:s<=j.length)(w:t<=k.length) 
  (u:∀d m,0<s->j[s-1]?=some d->k[t]?=some m->cK (key d) (key m)=true)
  (r:∀d m,0<t->k[t-1]?=some d->j[s]?=some m->cK (key d) (key m)=true):
  ∀d∈j.take s++k.take t,∀m∈j.drop s++k.drop t,cK (key d) (key m)=true:=by
 intro d b m a;have f:∀{p:List α} {l:Nat} {d:α},d∈p.take l->∃i,i<l/\p[i]?=some d:=by
  intro p l d v;obtain⟨i,c⟩:=YM v;rw[Y6]at c;split at c
  ·exact⟨i,by assumption,c⟩
  ·cases c
 have e:∀{p:List α} {l:Nat} {d:α},d∈p.drop l->∃i,l<=i/\p[i]?=some d:=by
  intro p l d v;obtain⟨i,c⟩:=YM v;rw[Y7]at c;exact⟨l+i,om,c⟩
 rcases YX.1 b with b|b<;>rcases YX.1 a with a|a<;>obtain⟨i,c,b⟩:=f b<;>obtain⟨y,q,a⟩:=e a
 ·exact o.lU b a om
 ·have g:s-1<j.length:=om;have h:t<k.length:=by
   have:=(Yz.1 a).1;omega
  exact Dc (o.le_of_le b (Yl g) om) (u _ _ om (Yl g) (Yl h)) (n.le_of_le (Yl h) a q)
 ·have g:t-1<k.length:=om;have h:s<j.length:=by
   have:=(Yz.1 a).1;omega
  exact Dc (n.le_of_le b (Yl g) om) (r _ _ om (Yl g) (Yl h)) (o.le_of_le (Yl h) a q)
 ·exact n.lU b a om
theorem lA.take{l:List α}(a:lA key l)(n:Nat):lA key (l.take n):=List.Pairwise.sublist (List.take_sublist n l) a
theorem lA.drop{l:List α}(a:lA key l)(n:Nat):lA key (l.drop n):=List.Pairwise.sublist (List.drop_sublist n l) a
theorem OR{b a c d:List α}(j:lA key b)(g:lA key a)(e:b.Perm c)(h:a.Perm d)(m:∀k∈c,∀i∈d,cK (key k) (key i)=true):lA key (b++a):=
 YK.2 ⟨j,g,fun k f i l=>m k (e.subset f) i (h.subset l)⟩
theorem G6(b a:List α)(c t:Nat):((b.take c++a.take t)++(b.drop c++a.drop t)).Perm (b++a):=by
 have d:b++a=b.take c++(b.drop c++(a.take t++a.drop t)):=by rw[Yq,<-Yn,Yq]
 rw[d,Yn];refine List.Perm.append_left _ ?_;rw[<-Yn,<-Yn];exact List.Perm.append_right _ List.perm_append_comm
end
end Go.VM
namespace Go.Proofs.YthlkhjchcjflkaaGreatDoor
open Go.AM Go.VM
abbrev nB:=List UInt8×Ty×Bool
structure FE where
 n:List UInt8
 k:Nat
 m:List UInt8
 nm:List UInt8
 a:D
 f:D
 o:Bool
 v:List UInt8
 w:D
def FE.ty(a:FE):List D:=[.int .i64 (Ym a.k),.str a.m,.str a.nm,a.a,a.f]
def fe(a:FE):List D:=[.str a.n,.int .i64 (Ym a.k),.str a.m,.str a.nm,a.a,a.f,.bool a.o]
def rows(xs:List FE):List (List V):=(xs.map fe).map fun a=>a.map V.d
def fw(a:FE):V:=.agg [.d (.str a.n),.d (.int .i64 (Ym a.k)),.d (.str a.m),.d (.str a.nm),.d a.a,.d a.f,.d (.bool a.o)]
def pe(a:FE):List D:=[.str a.n,.str a.v,.int .i64 (Ym a.k),.str a.m,.str a.nm,a.a,a.f,.bool a.o,a.w]
def pw(a:FE):V:=.agg [.d (.str a.n),.d (.str a.v),.d (.int .i64 (Ym a.k)),.d (.str a.m),.d (.str a.nm),.d a.a,.d a.f,.d (.bool a.o),.d a.w]
inductive kB:List nB->List FE->Prop
 |nil:kB [] []
 |cons {t:Ty} {x:FE} {l:List nB} {xs:List FE} (h:hU t x.ty) (hl:kB l xs):kB ((x.n,t,x.o)::l) (x::xs)
theorem kB.snoc{l:List nB}{xs:List FE}{t:Ty}{x:FE}(e:kB l xs)(d:hU t x.ty):kB (l++[(x.n,t,x.o)]) (xs++[x]):=by
 induction l generalizing xs with
 |nil=>cases e;exact .cons d .nil
 |cons f l a=>cases e with|cons c b=>exact .cons c (a b)
theorem kB.Xw{l:List nB}{xs:List FE}(d:kB l xs):EH l (xs.map fe):=by
 induction l generalizing xs with
 |nil=>cases d;exact .nil
 |cons e l a=>cases d with|cons c b=>exact .cons c (a b)
theorem kB.names{l:List nB}{xs:List FE}(c:kB l xs):xs.map FE.n=l.map (·.1):=by
 induction l generalizing xs with
 |nil=>cases c;rfl
 |cons e l a=>cases c with|cons d b=>simp only[YE,a b]
theorem kB.len{l:List nB}{xs:List FE}(a:kB l xs):xs.length=l.length:=by
 have:=congrArg List.length a.names;simpa using this
theorem kB.ins{l:List nB}{xs:List FE}{t:Ty}{x:FE}(e:kB l xs)(c:hU t x.ty):kB (jk (·.1) (x.n,t,x.o) l) (jk FE.n x xs):=by
 induction l generalizing xs with
 |nil=>cases e;exact .cons c .nil
 |cons f l d=>
  cases e with
  |cons b a=>
   simp only[jk];split
   ·exact .cons b (d a)
   ·exact .cons c (.cons b a)
theorem kB.G7{l:List nB}{xs:List FE}(d:kB l xs):kB (ct (·.1) l) (ct FE.n xs):=by
 have:∀{l:List nB} {xs:List FE} {e:List nB} {b:List FE},kB l xs->kB e b->kB (l.foldl (fun a i=>jk (·.1) i a) e) (xs.foldl (fun a i=>jk FE.n i a) b):=by
  intro l;induction l with
  |nil=>intro xs e b d c;cases d;exact c
  |cons k l f=>
   intro xs e b d c;cases d with
   |cons h g=>have j:=f g (c.ins h);exact j
 exact this d .nil
end Go.Proofs.YthlkhjchcjflkaaGreatDoor
namespace Go.VM
open Go.AM
section
variable{α:Type} {key:α->List UInt8}
theorem EL(a b h:List α)(d c:α)(g i:Nat)(f:g=a.length)(e:i=a.length+1+b.length):((a++d::(b++c::h)).set g c).set i d=a++c::(b++d::h):=by
 subst f;subst e;rw[YI _ _ (Yv _),Y0,Y5,YI _ _ om];rw[show a.length+1+b.length-a.length=b.length+1 from om,List.set_cons_succ,YI _ _ (Yv _),Y0,Y5]
theorem G8(a d g:List α)(c b:α)(f h:Nat)(i:f=a.length)(e:h=a.length+1+d.length):((a++c::(d++b::g)).set h c).set f b=a++b::(d++c::g):=by
 rw[List.set_comm _ _ om,EL a d g c b f h i e]
theorem rC(c e:List α)(b:α)(d:Nat)(a:d=c.length):(c++b::e)[d]?=some b:=by
 subst a;rw[Yt (Yv _),Y0,List.getElem?_cons_zero]
theorem wV(b c f:List α)(e a:α)(d:Nat)(g:d=b.length+1+c.length):(b++e::(c++a::f))[d]?=some a:=by
 have:=rC (b++e::c) f a d (by simp;omega);simpa using this
theorem JE(l:List α)(n:Nat)(b:n<=l.length):∃a c,l=a++c/\a.length=n:=
 ⟨l.take n,l.drop n,(Yq n l).symm,by simp[b]⟩
theorem OS(l:List α)(d:0<l.length):∃a b,l=a++[b]:=by
 rcases List.eq_nil_or_concat l with c|⟨a,b,c⟩
 ·subst c;simp at d
 ·exact⟨a,b,by simpa using c⟩
theorem Dd(l:List α)(c:0<l.length):∃b a,l=b::a:=by
 cases l with
 |nil=>simp at c
 |cons b a=>exact⟨b,a,rfl⟩
theorem G9{b a:List α}{i:α}(d:lA key (b++a))(h:∀f∈b,cK (key f) (key i)=true)(g:∀f∈a,cK (key i) (key f)=true):lA key (b++i::a):=by
 unfold lA at d⊢;rw[YK]at d⊢;refine⟨d.1,YB.2 ⟨g,d.2.1⟩,fun j e k c=>?_⟩;rcases YN.1 c with rfl|c
 ·exact h j e
 ·exact d.2.2 j e k c
theorem OT{f:List α}{c g:α}(e:lA key (f++[c]))(b:cK (key c) (key g)=true):∀d∈f++[c],cK (key d) (key g)=true:=by
 intro d a;unfold lA at e;rw[YK]at e;rcases YX.1 a with a|a
 ·exact th _ _ _ (e.2.2 d a c sm) b
 ·simp at a;subst a;exact b
theorem Ha(b a:List α)(c:α):(b++c::a).Perm ((b++a)++[c]):=
 List.perm_middle.trans (List.perm_append_singleton c (b++a)).symm
theorem eK(l:List α):(ct key l).length=l.length:=(dC l).length_eq
theorem mN{l b:List α}(d:(l.map key).Nodup)(a:b.Perm l)(c:lA key b):ct key l=b:=(yy d a c).symm
theorem vv{l b:List α}(a:b.Perm l)(c:(l.map key).Nodup):(b.map key).Nodup:=((a.map key).nodup_iff).2 c
theorem K2{b:List α}{l:α}(m:lA key b)(e:Nat)(n:e<=b.length)(f:∀i,0<e->b[e-1]?=some i->cK (key i) (key l)=true):∀j∈b.take e,cK (key j) (key l)=true:=by
 intro j h;obtain⟨o,a⟩:=YM h;rw[Y6]at a;split at a
 ·rename_i k;have c:e-1<b.length:=om;have d:=f _ om (Yl c);rcases m.le_of_le a (Yl c) om with rfl|g
  ·exact d
  ·exact th _ _ _ g d
 ·cases a
theorem K3{e:List α}{l:α}(m:lA key e)(f:Nat)(g:∀i,e[f]?=some i->cK (key l) (key i)=true):∀k∈e.drop f,cK (key l) (key k)=true:=by
 intro k h;obtain⟨n,a⟩:=YM h;rw[Y7]at a;have j:=(Yz.1 a).1;have c:f<e.length:=om;have d:=g _ (Yl c);rcases m.le_of_le (Yl c) a om with b|b
 ·rw[<-b];exact d
 ·exact th _ _ _ d b
theorem De{l b a:List α}{c:α}(d:(b++c::a).Perm l)(h:(l.map key).Nodup)(i:lA key (b++a))(g:∀e∈b,cK (key e) (key c)=true)(f:∀e∈a,cK (key c) (key e)=true):ct key l=b++c::a:=
 mN h d (G9 i g f)
theorem Hb{a:List α}{e:α}(c:lA key a)(i:((e::a).map key).Nodup)(b:Nat)(h:b<=a.length)(g:∀d,0<b->a[b-1]?=some d->cK (key d) (key e)=true)(f:∀d,a[b]?=some d->cK (key e) (key d)=true):
  ct key (e::a)=a.take b++e::a.drop b:=
 De (List.perm_middle.trans (by rw[Yq])) i (by rw[Yq];exact c) (K2 c b h g) (K3 c b f)
theorem JF{a:List α}{e:α}(c:lA key a)(i:((a++[e]).map key).Nodup)(b:Nat)(h:b<=a.length)(g:∀d,0<b->a[b-1]?=some d->cK (key d) (key e)=true)(f:∀d,a[b]?=some d->cK (key e) (key d)=true):
  ct key (a++[e])=a.take b++e::a.drop b:=
 De ((Ha _ _ _).trans (by rw[Yq])) i (by rw[Yq];exact c) (K2 c b h g) (K3 c b f)
theorem Mu{c b:List α}(l:lA key c)(m:lA key b)(g:((c++b).map key).Nodup)(d t:Nat)(i:d<=c.length)(k:t<=b.length) 
  (j:∀f e,0<d->c[d-1]?=some f->b[t]?=some e->cK (key f) (key e)=true)
  (h:∀f e,0<t->b[t-1]?=some f->c[d]?=some e->cK (key f) (key e)=true):
  ct key (c++b)=ct key (c.take d++b.take t)++ct key (c.drop d++b.drop t)/\((c.take d++b.take t).map key).Nodup/\((c.drop d++b.drop t).map key).Nodup:=by
 have a:=vv (G6 c b d t) g;rw[Yx,Yu]at a;refine⟨mN g (((dC _).append (dC _)).trans (G6 c b d t)) ?_,a.1,a.2.1⟩;exact OR (gF a.1) (gF a.2.1) (dC _) (dC _) (Tf l m d t i k j h)
end
section
variable{C:eD} {cO:FuncId->List Value->Option Value}
theorem rD{f:FuncId}{eN c:List V}{es:Nat}{b:List (List V)}{P:cZ->List (List V)->Prop}(r:b3 C cO f eN [.row es b] fun j l=>∃a,l=[.row es a]/\cX j=true/\(∀e∈a,gC 0 e=true)/\P j a) 
  (n:Nat) {σ:VS} {K:cZ->VS->Prop} (m:nth σ n=some (.row es b)) (o:∀e∈b,gC 0 e=true) (k:gC 1 eN=true) (x:c=iw (jO [n] σ.length) eN) (s:∀j a,P j a->K j (σ.set n (.row es a))):
  b3 C cO f c σ K:=by
 have d:∀(g:Nat->Nat) (p:List (List V)),(∀e∈p,gC 0 e=true)->eC g (.row es p)=.row es p:=by
  intro g p i;simp only[eC];congr 1;conv=>rhs;rw[<-List.map_id p]
  exact Y4 fun e h=>gk g e (i e h)
 refine r.frame [n] Z sm (fun z y i=>?_) k x (fun v t i _=>?_)
 ·cases z with
  |zero=>
   obtain rfl:n=y:=by simpa using i
   refine⟨.row es b,Z,?_,?_⟩
   ·rw[<-cz,m,d _ _ o]
   ·simp only[gY,List.all_eq_true];exact fun e h=>hE 1 e (o e h)
  |succ z=>simp at i
 ·obtain⟨a,rfl,q,w,u⟩:=i;rw[lT _ _ q];simp only[YE,List.map_nil,d _ _ w,merge,YY];exact s v a u
end
end Go.VM
namespace Go.Proofs.YthlkhjchcjflkaaGreatDoor
open Go.AM Go.VM
theorem pY(l:List FE):∀b∈rows l,gC 0 b=true:=by
 intro b a;simp only[rows,Y3,YV]at a;obtain⟨c,_,rfl⟩:=a;exact yx 0 (fe c)
theorem ju(l:List FE):(rows l).length=l.length:=by simp[rows]
def ew:Bool->Nat
 |false=>7
 |true=>9
def wW:Bool->FE->List D
 |false,a=>fe a
 |true,a=>pe a
def Xx:Bool->FE->V
 |false,a=>fw a
 |true,a=>pw a
def dz(b:Bool)(xs:List FE):List (List V):=(xs.map (wW b)).map fun a=>a.map V.d
def mO:Bool->V
 |false=>.fn pV [] []
 |true=>.fn sd [] []
def UQ:Bool->FuncId
 |false=>kI
 |true=>ko
def UR:Bool->FuncId
 |false=>lS
 |true=>ld
def US:Bool->FuncId
 |false=>jN
 |true=>jv
def Mv:Bool->FuncId
 |false=>lc
 |true=>kA
def Wx:Bool->FuncId
 |false=>lR
 |true=>la
def Wy:Bool->FuncId
 |false=>lz
 |true=>kG
abbrev yz{b c:Bool}(_:b=c):Bool:=b
theorem ns{a:Bool}(l:List FE)(b:Nat)(c:FE):(dz a l).set b ((wW a c).map V.d)=dz a (l.set b c):=by
 simp only[dz,List.map_set]
theorem hV{b:Bool}{l:List FE}{c:Nat}{a:FE}(d:l[c]?=some a):nth (dz b l) c=some ((wW b a).map V.d):=by
 rw[cz,dz,List.getElem?_map,List.getElem?_map,d];rfl
theorem yA{c:Bool}(l:List FE):∀b∈dz c l,gC 0 b=true:=by
 intro b a;simp only[dz,Y3,YV]at a;obtain⟨d,_,rfl⟩:=a;exact yx 0 (wW c d)
theorem y4(e:Bool)(f c g d h:List FE)(S:c.length=d.length)(n j b o:Nat)(O:n=(f++(c++(g++(d++h)))).length)(ac:j=f.length)(W:b=f.length+(c.length+g.length))(X:o=c.length)(aa:n<4294967296):
  b3 C cn (UQ e) [.ms 0 (ew e) 0 n n,b6 j,b6 b,b6 o,(mO e)] [.row (ew e) (dz e (f++(c++(g++(d++h)))))] fun U E=>E=[.row (ew e) (dz e (f++(d++(g++(c++h)))))]/\U=.ret (.dN []):=by
 have M:e=e:=rfl;cases e;all_goals
  let e:Bool:=yz M
  have Q:n=f.length+(c.length+(g.length+(d.length+h.length))):=by rw[O];simp
  refine cA ?_;refine cw (eh:=[(0,.ms 0 (ew e) 0 n n),(1,b6 j),(2,b6 b),(3,b6 o),(10,b6 0)]) (fN:=[.row (ew e) (dz e (f++(d.take 0++(c.drop 0++(g++(c.take 0++(d.drop 0++h)))))))]) (.same ⟨Z,Z,Z,Z,Z,tv⟩ Z) ?_;refine b5.iter (fun a:Nat=>[(0,.ms 0 (ew e) 0 n n),(1,b6 j),(2,b6 b),(3,b6 o),(10,b6 a)]) (fun a=>[.row (ew e) (dz e (f++(d.take a++(c.drop a++(g++(c.take a++(d.drop a++h)))))))]) (fun a=>o-a) (fun a=>a<=o) ?_ 0 (YT _);intro a ab;apply aZ<;>intro K
  ·have q:a<o:=fq K;have r:a<c.length:=om;have s:a<d.length:=om;have P:c.drop a=c[a]::c.drop (a+1):=YA r;have L:d.drop a=d[a]::d.drop (a+1):=YA s;have y:c.take (a+1)=c.take a++[c[a]]:=by rw[YG,Yl r];rfl
   have A:d.take (a+1)=d.take a++[d[a]]:=by rw[YG,Yl s];rfl
   have F:(c.take a).length=a:=by simp;omega
   have v:(d.take a).length=a:=by simp;omega
   have G:(c.drop (a+1)).length=c.length-(a+1):=by simp
   have I:f++(d.take a++(c.drop a++(g++(c.take a++(d.drop a++h)))))=(f++d.take a)++c[a]::((c.drop (a+1)++(g++c.take a))++d[a]::(d.drop (a+1)++h)):=by rw[P,L];simp only[Yn,Yy,Yw]
   have H:f++(d.take (a+1)++(c.drop (a+1)++(g++(c.take (a+1)++(d.drop (a+1)++h)))))=(f++d.take a)++d[a]::((c.drop (a+1)++(g++c.take a))++c[a]::(d.drop (a+1)++h)):=by rw[y,A];simp only[Yn,Yy,Yw]
   have p:j+a=(f++d.take a).length:=by rw[Ys,v];omega
   have t:b+a=(f++d.take a).length+1+(c.drop (a+1)++(g++c.take a)).length:=by simp only[Ys,v,F,G];omega
   have D:IntKind.i64.wrap (Ym j+Ym a)=Ym (j+a):=eb om;have B:IntKind.i64.wrap (Ym b+Ym a)=Ym (b+a):=eb om;have k:=rC (f++d.take a) ((c.drop (a+1)++(g++c.take a))++d[a]::(d.drop (a+1)++h)) c[a] (j+a) p;have l:=wV (f++d.take a) (c.drop (a+1)++(g++c.take a)) (d.drop (a+1)++h) c[a] d[a] (b+a) t;have i:=EL (f++d.take a) (c.drop (a+1)++(g++c.take a)) (d.drop (a+1)++h) c[a] d[a] (j+a) (b+a) p t;rw[<-I]at k l i;rw[<-H]at i;generalize c[a]=Y at k l i;generalize d[a]=N at k l i;dsimp only;generalize f++(d.take a++(c.drop a++(g++(c.take a++(d.drop a++h)))))=m at k l i⊢;have x:nth (dz e m) (0+(j+a))=some ((wW e Y).map V.d):=by rw[Yo];exact hV k
   have u:nth (dz e m) (0+(b+a))=some ((wW e N).map V.d):=by rw[Yo];exact hV l
   have w:nth ((dz e m).set (0+(j+a)) ((wW e N).map V.d)) (0+(b+a))=some ((wW e N).map V.d):=by
    rw[cz,YL om,<-cz];exact u
   have J:j+a<n:=om;have z:b+a<n:=om;repeat first
    |refine bZ D ?_
    |refine bZ B ?_
    |refine a7 J ?_
    |refine a7 z ?_
    |refine b7 _ w ?_
    |refine b7 _ x ?_
    |refine b7 _ u ?_
    |refine b4 ?_
   refine⟨a+1,q,by show o-(a+1)<o-a;omega,.same ⟨rfl,rfl,rfl,rfl,int_eq (cq om),tv⟩ ?_,rfl,rfl⟩;rw[<-i,<-ns,<-ns,Yo,Yo];rfl
  ·have q:o<=a:=dM K;refine⟨?_,Z⟩;rw[YF om,YF om,YS om,YS om];simp;exact⟨Z,Z⟩
theorem fV{a b:Nat}(d:b<=a)(c:a<9223372036854775808):IntKind.i64.wrap (Ym a-Ym b)=Ym (a-b):=by
 simp only[Yp];rw[wrap64 om om];omega
theorem vi{a b:Int}{c:IntKind}(d:a=b):V.d (.int c a)=V.d (.int c b):=by rw[d]
theorem XU{c b:Nat}(a:(!decide (Ym c=Ym b))=true):c≠b:=by
 rw[Bool.not_eq_true']at a;exact wA a
theorem Wz{c b:Nat}(a:(!decide (Ym c=Ym b))=false):c=b:=by
 rw[Bool.not_eq_false']at a;exact BJ a
theorem rE(a:Bool)(d c l m o:List FE)(i:c.length=m.length)(n p b t:Nat)(v:List FE)(r:v=d++(c++(l++(m++o))))(x:n=v.length)(y:p=d.length)(q:b=d.length+(c.length+l.length))(s:t=c.length)(w:n<4294967296) 
  {g e h:V} (k:g=b6 p) (j:e=b6 b) (f:h=b6 t) {K:cZ->VS->Prop} (u:K (.ret (.dN [])) [.row (ew a) (dz a (d++(m++(l++(c++o)))))]):b3 C cn (UQ a) [.ms 0 (ew a) 0 n n,g,e,h,(mO a)] [.row (ew a) (dz a v)] K:=by
 subst k j f r;refine(y4 a d c l m o i n p b t x y q s w).mono (fun B z A=>?_);rw[A.1,A.2];exact u
theorem EM(f:Bool)(q p s y:List FE)(H:0<p.length)(K:0<s.length)(n L o b:Nat)(I:n=(q++(p++(s++y))).length)(Q:L=q.length)(J:o=q.length+p.length)(P:b=q.length+(p.length+s.length))(z:n<4294967296):
  b3 C cn (UR f) [.ms 0 (ew f) 0 n n,b6 L,b6 o,b6 b,(mO f)] [.row (ew f) (dz f (q++(p++(s++y))))] fun O E=>E=[.row (ew f) (dz f (q++(s++(p++y))))]/\O=.ret (.dN []):=by
 have G:f=f:=rfl;cases f;all_goals
  let f:Bool:=yz G
  have D:n=q.length+(p.length+(s.length+y.length)):=by rw[I];simp
  refine cA ?_;refine cw (eh:=[(0,.ms 0 (ew f) 0 n n),(2,b6 o),(4,(mO f)),(10,b6 p.length),(11,b6 s.length)]) (fN:=[.row (ew f) (dz f (q++(p++(s++y))))]) (.same ⟨Z,Z,Z,int_eq (by rw[fV om om];congr 1;omega),int_eq (by rw[fV om om];congr 1;omega),tv⟩ rfl) ?_;refine b5.iter (fun g:List FE×List FE×List FE×List FE=>[(0,.ms 0 (ew f) 0 n n),(2,b6 o),(4,(mO f)),(10,b6 g.2.1.length),(11,b6 g.2.2.1.length)]) (fun g=>[.row (ew f) (dz f (g.1++(g.2.1++(g.2.2.1++g.2.2.2))))]) (fun g=>g.2.1.length+g.2.2.1.length)
   (fun g=>0<g.2.1.length/\0<g.2.2.1.length/\o=g.1.length+g.2.1.length/\n=g.1.length+(g.2.1.length+(g.2.2.1.length+g.2.2.2.length))/\q++(s++(p++y))=g.1++(g.2.2.1++(g.2.1++g.2.2.2))) ?_ (q,p,s,y) ⟨H,K,J,D,rfl⟩
  rintro⟨d,a,c,e⟩ ⟨v,u,r,l,w⟩;have v:0<a.length:=v;have u:0<c.length:=u;have r:o=d.length+a.length:=r;have l:n=d.length+(a.length+(c.length+e.length)):=l;have w:q++(s++(p++y))=d++(c++(a++e)):=w;apply aZ<;>intro F
  ·have m:=XU F;apply aZ<;>intro B
   ·have t:c.length<a.length:=fq B;obtain⟨i,h,rfl,x⟩:=JE a c.length om;simp only[Ys]at v r l m t;refine rE f d i h c e x n (o-(i++h).length) o c.length _ sm (by simp;omega) (by simp;omega) om om z (vi (fV (by simp;omega) om)) rfl rfl ?_;refine⟨(d++c,h,i,e),⟨by show 0<h.length;omega,by show 0<i.length;omega,by show o=(d++c).length+h.length;simp;omega,by show n=(d++c).length+(h.length+(i.length+e.length));simp;omega,?_⟩,by show h.length+i.length<(i++h).length+c.length;simp;omega,.same ⟨rfl,rfl,rfl,int_eq ?_,int_eq (by rw[x]),tv⟩ ?_,rfl,rfl⟩
    ·show _=(d++c)++(i++(h++e));rw[w];simp
    ·rw[fV (by simp;omega) (by simp;omega)];congr 1;simp;omega
    ·show [cU.row (ew f) (dz f (d++(c++(h++(i++e)))))]=[.row (ew f) (dz f ((d++c)++(h++(i++e))))];rw[Yn]
   ·have t:a.length<=c.length:=dM B;obtain⟨k,j,rfl,A⟩:=JE c (c.length-a.length) om;simp only[Ys]at u l m t A;refine rE f d a k j e om n (o-a.length) (o+(k++j).length-a.length) a.length _ sm (by simp;omega) om (by simp;omega) rfl z (vi (fV om om)) (vi ?_) rfl ?_
    ·rw[eb (by simp;omega),fV (by simp;omega) (by simp;omega)]
    refine⟨(d,j,k,a++e),⟨by show 0<j.length;omega,by show 0<k.length;omega,by show o=d.length+j.length;omega,by show n=d.length+(j.length+(k.length+(a++e).length));simp;omega,?_⟩,by show j.length+k.length<a.length+(k++j).length;simp;omega,.same ⟨rfl,rfl,rfl,int_eq (congrArg Ym (show a.length=j.length by omega)),int_eq ?_,tv⟩ rfl,rfl,rfl⟩
    ·show _=d++(k++(j++(a++e)));rw[w];simp
    ·rw[fV (by simp;omega) (by simp;omega)];congr 1;simp;omega
  ·have m:=Wz F;refine rE f d a [] c e m n (o-a.length) o a.length _ sm (by simp;omega) om (by simp;omega) rfl z (vi (fV om om)) rfl rfl ?_;refine⟨?_,Z⟩;rw[w];rfl
theorem Tg(a b:List UInt8):C.ext eJ ([D.str a,D.str b].map cH)=some (cH (.int .i64 (v8 a b))):=by
 show ext eJ [.string ⟨⟨a⟩⟩,.string ⟨⟨b⟩⟩]=_;rfl
theorem JG(a b:List UInt8){σ:VS}{K:cZ->VS->Prop}(c:K (.ret (.d (.int .i64 (v8 a b)))) σ):b3 C cn pT [cE a,cE b] σ K:=by
 refine cA ?_;refine cA ?_;refine Js (.int .i64 (v8 a b)) (Tg a b) Z ?_;exact c
theorem yB{a b:List UInt8}:decide (v8 a b<0)=cK a b:=by
 rw[v8];cases cK a b with
 |true=>rfl
 |false=>cases lC a b<;>rfl
theorem tT(a:Bool)(c b:FE){σ:VS}{K:cZ->VS->Prop}(d:K (.ret (.d (.int .i64 (v8 c.n b.n)))) σ):b3 C cn (match a with|false=>pV|true=>sd) [Xx a c,Xx a b] σ K:=by
 cases a;all_goals
  refine cN ?_ Z Z d;refine cB ?_;refine JG c.n b.n ?_;refine cR.drop 0 ?_ ?_ ?_ ?_
  ·exact Z
  ·exact Z
  ·exact Z
  exact cR.now Z ⟨Z,Z⟩
def UT(a:Bool)(n c b d:Nat):Tm:=[(0,.ms 0 (ew a) 0 n n),(1,b6 c),(2,b6 b),(3,(mO a)),(8,b6 d)]
def Su(a:Bool)(n c b e d:Nat):Tm:=[(0,.ms 0 (ew a) 0 n n),(1,b6 c),(2,b6 b),(3,(mO a)),(8,b6 e),(9,b6 d)]
theorem y5(e:Bool)(l c p:List FE)(ag:(c.map FE.n).Nodup)(n i b:Nat)(an:n=(l++(c++p)).length)(X:i=l.length)(ax:b=l.length+c.length)(az:n<4294967296):
  b3 C cn (US e) [.ms 0 (ew e) 0 n n,b6 i,b6 b,(mO e)] [.row (ew e) (dz e (l++(c++p)))] fun aw ai=>ai=[.row (ew e) (dz e (l++(ct FE.n c++p)))]/\aw=.ret (.dN []):=by
 have hw:e=e:=rfl;cases e;all_goals
  let e:Bool:=yz hw
  have aq:n=l.length+(c.length+p.length):=by rw[an];simp
  refine cA ?_;have ao:ct FE.n (c.take 1)=c.take 1:=by cases c<;>rfl
  refine cw (eh:=UT e n i b (i+1)) (fN:=[.row (ew e) (dz e (l++(ct FE.n (c.take 1)++(c.drop 1++p))))]) (.same ⟨Z,Z,Z,Z,int_eq (cq om),tv⟩ ?_) ?_
  ·show [cU.row (ew e) (dz e (l++(c++p)))]=_;rw[ao,<-Yn (c.take 1),Yq]
  refine b5.iter (fun d:Nat=>UT e n i b (i+d)) (fun d=>[.row (ew e) (dz e (l++(ct FE.n (c.take d)++(c.drop d++p))))]) (fun d=>c.length-d) (fun d=>1<=d/\(d<=c.length∨d=1)) ?_ 1 ⟨Yv _,.inr Z⟩;rintro d ⟨av,au⟩;apply aZ<;>intro ak
  ·have m:d<c.length:=by have:=fq ak;omega
   have N:c[d]?=some c[d]:=Yl m;have w:c.take (d+1)=c.take d++[c[d]]:=by rw[YG,N];rfl
   have L:c.drop d=c[d]::c.drop (d+1):=YA m;have o:((c.take (d+1)).map FE.n).Nodup:=by
    have:(c.take (d+1)).map FE.n=(c.map FE.n).take (d+1):=by rw[List.map_take]
    rw[this];exact(List.take_sublist _ _).nodup ag
   generalize c[d]=k at w L N;have W:((c.take d).map FE.n).Nodup:=by rw[w,Yx,Yu]at o;exact o.1
   have ab:∀g∈c.take d,g.n≠k.n:=by
    intro g S ap;rw[w,Yx,Yu]at o;exact o.2.2 g.n (YD S) k.n sm ap
   have B:=gF (key:=FE.n) W;have K:=dC (key:=FE.n) (c.take d);have z:(ct FE.n (c.take d)).length=d:=by rw[eK];simp;omega
   have J:∀g∈ct FE.n (c.take d),g.n≠k.n:=fun g S=>ab g (K.subset S);have u:∀j f,j++f=ct FE.n (c.take d)->(∀g∈j,cK g.n k.n=true)->(∀g∈f,cK k.n g.n=true)->ct FE.n (c.take (d+1))=j++k::f:=by
    intro j f h al s;refine mN o ?_ (G9 (by rw[h];exact B) al s);rw[w];refine(Ha j f k).trans ?_;rw[h];exact K.append_right _
   generalize ct FE.n (c.take d)=O at B z J u;have ar:(c.drop (d+1)).length=c.length-(d+1):=by simp
   refine cw (eh:=Su e n i b (i+d) (i+O.length)) (fN:=[.row (ew e) (dz e (l++(O++(k::([]++(c.drop (d+1)++p))))))]) (.same ⟨Z,Z,Z,Z,Z,by rw[z];rfl,tv⟩ ?_) ?_
   ·show [cU.row (ew e) (dz e (l++(O++(c.drop d++p))))]=_;rw[L];rfl
   refine b5.iter (fun G:List FE×List FE=>Su e n i b (i+d) (i+G.1.length)) (fun G=>[.row (ew e) (dz e (l++(G.1++(k::(G.2++(c.drop (d+1)++p))))))]) (fun G=>G.1.length) (fun G=>G.1++G.2=O/\∀g∈G.2,cK k.n g.n=true) ?_ (O,[]) ⟨by simp,by simp⟩;rintro⟨j,f⟩ ⟨h,s⟩;have h:j++f=O:=h;have s:∀g∈f,cK k.n g.n=true:=s;have R:j.length+f.length=d:=by rw[<-z,<-h];simp
   apply aZ<;>intro r
   ·have A:0<j.length:=by have:i<i+j.length:=fq r;omega
    obtain⟨a,g,rfl⟩:=OS j A;have I:(a++[g]).length=a.length+1:=by simp
    have am:l++((a++[g])++(k::(f++(c.drop (d+1)++p))))=(l++a)++g::([]++k::(f++(c.drop (d+1)++p))):=by simp only[Yn,Yy,Yw]
    have aj:l++(a++(k::((g::f)++(c.drop (d+1)++p))))=(l++a)++k::([]++g::(f++(c.drop (d+1)++p))):=by simp only[Yn,Yy,Yw]
    have M:i+a.length=(l++a).length:=by simp[X]
    have P:=rC (l++a) ([]++k::(f++(c.drop (d+1)++p))) g (i+a.length) M;have aa:=wV (l++a) [] (f++(c.drop (d+1)++p)) g k (i+(a.length+1)) (by simp[X];omega);have H:=G8 (l++a) [] (f++(c.drop (d+1)++p)) g k (i+a.length) (i+(a.length+1)) M (by simp[X];omega);rw[<-am]at P aa H;rw[<-aj]at H;have F:i+(a.length+1)<n:=by rw[I]at R;omega
    have D:i+a.length<n:=om;have ac:g∈O:=by rw[<-h];simp
    have Y:=J g ac;have Q:lA FE.n (a++[g]):=by
     have:=B;rw[<-h]at this;exact(YK.1 this).1
    dsimp only at r⊢;rw[I]at r⊢;generalize T:l++((a++[g])++(k::(f++(c.drop (d+1)++p))))=x at P aa H⊢;have y:IntKind.i64.wrap (Ym (i+(a.length+1))-1)=Ym (i+a.length):=by
     have:=fV (a:=i+(a.length+1)) (b:=1) om om;rw[show i+(a.length+1)-1=i+a.length from by omega]at this;exact this
    have v:nth (dz e x) (0+(i+(a.length+1)))=some ((wW e k).map V.d):=by rw[Yo];exact hV aa
    have q:nth (dz e x) (0+(i+a.length))=some ((wW e g).map V.d):=by rw[Yo];exact hV P
    have t:nth ((dz e x).set (0+(i+(a.length+1))) ((wW e g).map V.d)) (0+(i+a.length))=some ((wW e g).map V.d):=by
     rw[cz,YL om,<-cz];exact q
    repeat first
     |refine bZ y ?_
     |refine bZ rfl ?_
     |refine a7 F ?_
     |refine a7 D ?_
     |refine b7 _ t ?_
     |refine b7 _ v ?_
     |refine b7 _ q ?_
     |refine a8 r ?_
     |refine b4 ?_
    refine tT e k g ?_;repeat first
     |refine bZ y ?_
     |refine bZ rfl ?_
     |refine a7 F ?_
     |refine a7 D ?_
     |refine b7 _ t ?_
     |refine b7 _ v ?_
     |refine b7 _ q ?_
     |refine a8 r ?_
     |refine b4 ?_
    apply aZ<;>intro ae
    ·have E:cK k.n g.n=true:=by rw[<-yB];exact ae
     repeat first
      |refine bZ y ?_
      |refine bZ rfl ?_
      |refine a7 F ?_
      |refine a7 D ?_
      |refine b7 _ t ?_
      |refine b7 _ v ?_
      |refine b7 _ q ?_
      |refine a8 r ?_
      |refine b4 ?_
     refine⟨(a,g::f),⟨by rw[<-h];simp,fun e hw=>?_⟩,by show a.length<a.length+1;omega,.same ⟨rfl,rfl,rfl,rfl,rfl,int_eq y,tv⟩ ?_,rfl,rfl⟩
     ·rcases YN.1 hw with rfl|hw
      ·exact E
      ·exact s e hw
     ·show _=[cU.row (ew e) (dz e (l++(a++(k::((g::f)++(c.drop (d+1)++p))))))];rw[<-H,<-ns,<-ns,Yo,Yo];rfl
    ·have E:cK k.n g.n=false:=by rw[<-yB];exact ae
     have ad:cK g.n k.n=true:=wU _ _ E (fun aA=>Y aA.symm);refine⟨d+1,⟨om,.inl m⟩,by show c.length-(d+1)<c.length-d;omega,.same ⟨rfl,rfl,rfl,rfl,int_eq (cq om),tv⟩ ?_,rfl,rfl⟩;have:=u (a++[g]) f h (OT Q ad) s;show [cU.row (ew e) (dz e x)]=[cU.row (ew e) (dz e (l++(ct FE.n (c.take (d+1))++(c.drop (d+1)++p))))];rw[this,<-T];simp<;>exact⟨rfl,rfl⟩
   ·have A:j.length=0:=by have ay:i+j.length<=i:=dM r;omega
    repeat first|refine a1 r ?_|refine b4 ?_
    have U:=Yr A;subst U;refine⟨d+1,⟨om,.inl m⟩,by show c.length-(d+1)<c.length-d;omega,.same ⟨rfl,rfl,rfl,rfl,int_eq (cq om),tv⟩ ?_,rfl,rfl⟩;have:=u [] f h sm s;show _=[cU.row (ew e) (dz e (l++(ct FE.n (c.take (d+1))++(c.drop (d+1)++p))))];rw[this];simp<;>exact⟨rfl,rfl⟩
  ·have m:c.length<=d:=by have:=dM ak;omega
   refine⟨?_,Z⟩;rw[YF m,YS m];rfl
theorem UU{n:Int}(b:0<=n)(a:n<18446744073709551616):IntKind.u64.wrap n=n:=by
 unfold IntKind.wrap;simp only[IntKind.signed,IntKind.bits];first
  |(show(if _ then _ else _)=_;split<;>omega)
  |(simp;omega)
theorem half{i j:Nat}(a:i+j<9223372036854775808):IntKind.i64.wrap (YZ (IntKind.u64.wrap (IntKind.i64.wrap (Ym i+Ym j))) (2^(min 1 IntKind.u64.bits)))=Ym ((i+j)/2):=by
 rw[eb a,UU (by simp only[Yp];omega) (by simp only[Yp];omega)];have:YZ (Ym (i+j)) (2^(min 1 IntKind.u64.bits))=Ym ((i+j)/2):=by
  show YZ (Ym (i+j)) 2=_;rw[Int.fdiv_eq_ediv_of_nonneg _ dc];simp only[Yp];omega
 rw[this,wrap64 (by simp only[Yp];omega) (by simp only[Yp];omega)]
def Sv(a:Bool)(n d e b t1 c t2 f:Nat):Tm:=[(0,.ms 0 (ew a) 0 n n),(1,b6 d),(2,b6 e),(3,b6 b),(4,(mO a)),(t1,b6 c),(t2,b6 f)]
theorem Hc(d:Bool)(k:List FE)(e:FE)(a l:List FE)(ak:lA FE.n a)(B:((e::a).map FE.n).Nodup)(n f g b:Nat)(aq:n=(k++(e::(a++l))).length)(au:f=k.length)(aA:g=f+1)(aj:b=g+a.length)(az:n<4294967296):
  b3 C cn (Mv d) [.ms 0 (ew d) 0 n n,b6 f,b6 g,b6 b,(mO d)] [.row (ew d) (dz d (k++(e::(a++l))))] fun ay ac=>ac=[.row (ew d) (dz d (k++(ct FE.n (e::a)++l)))]/\ay=.ret (.dN []):=by
 have z:d=d:=rfl;cases d;all_goals
  let d:Bool:=yz z
  have aw:n=k.length+(a.length+l.length+1):=by rw[aq];simp
  have S:∀h∈a,h.n≠e.n:=by
   intro h an ar;rw[YE,List.nodup_cons]at B;exact B.1 (by rw[<-ar];exact YD an)
  have ab:IntKind.i64.wrap (Ym g-Ym f)=1:=by
   rw[fV om om,show g-f=1 from by omega];rfl
  have av:(k++(e::(a++l)))[f]?=some e:=rC k (a++l) e f au;have al:∀s (i:s<a.length),(k++(e::(a++l)))[g+s]?=some a[s]:=by
   intro s i;rw[Yt om,show g+s-k.length=s+1 from om,List.getElem?_cons_succ,YC i,Yl i]
  refine cA ?_;refine aZ (fun ah=>?_) (fun ah=>absurd (ah.symm.trans (decide_eq_true ab)) dc);refine cw (eh:=Sv d n f g b 10 (g+0) 11 (g+a.length)) (fN:=[.row (ew d) (dz d (k++(e::(a++l))))]) (.same ⟨Z,Z,Z,Z,Z,Z,by rw[<-aj];rfl,tv⟩ rfl) ?_;refine b5.iter (fun x:Nat×Nat=>Sv d n f g b 10 (g+x.1) 11 (g+x.2)) (fun _=>[.row (ew d) (dz d (k++(e::(a++l))))]) (fun x=>x.2-x.1)
   (fun x=>x.1<=x.2/\x.2<=a.length/\(∀h,0<x.1->a[x.1-1]?=some h->cK h.n e.n=true)/\(∀h,a[x.2]?=some h->cK e.n h.n=true)) ?_ (0,a.length) ⟨YT _,Yv _,fun h i=>absurd i (YQ _),fun h i=>by rw[YJ (Yv _)]at i;cases i⟩
  rintro⟨s,p⟩ ⟨K,v,H,F⟩;have K:s<=p:=K;have v:p<=a.length:=v;have H:∀h,0<s->a[s-1]?=some h->cK h.n e.n=true:=H;have F:∀h,a[p]?=some h->cK e.n h.n=true:=F;apply aZ<;>intro W
  ·have X:s<p:=by have q:g+s<g+p:=fq W;omega
   have j:=half (i:=g+s) (j:=g+p) om;obtain⟨i,ap⟩:∃i,(g+s+(g+p))/2=g+i:=⟨(s+p)/2,om⟩;rw[ap]at j;have ag:s<=i:=om;have T:i<p:=om;have N:=al i om;have E:a[i]?=some a[i]:=Yl om;have O:a[i]∈a:=YR _;generalize a[i]=h at N E O;have o:nth (dz d (k++(e::(a++l)))) (0+(g+i))=some ((wW d h).map V.d):=by rw[Yo];exact hV N
   have m:nth (dz d (k++(e::(a++l)))) (0+f)=some ((wW d e).map V.d):=by rw[Yo];exact hV av
   have w:g+i<n:=om;have u:f<n:=om;repeat first
    |refine bZ j ?_
    |refine bZ rfl ?_
    |refine b7 _ o ?_
    |refine b7 _ m ?_
    |refine a7 w ?_
    |refine a7 u ?_
    |refine b4 ?_
   refine tT d h e ?_;repeat first
    |refine bZ j ?_
    |refine bZ rfl ?_
    |refine b7 _ o ?_
    |refine b7 _ m ?_
    |refine a7 w ?_
    |refine a7 u ?_
    |refine b4 ?_
   apply aZ<;>intro Y
   ·have D:cK h.n e.n=true:=by rw[<-yB];exact Y
    refine⟨(i+1,p),⟨T,v,fun d _ z=>?_,F⟩,by show p-(i+1)<p-s;omega,.same ⟨rfl,rfl,rfl,rfl,rfl,int_eq ?_,rfl,tv⟩ rfl,rfl,rfl⟩
    ·have:a[i]?=some d:=z;rw[E]at this;cases this;exact D
    ·rw[j];exact cq om
   ·have D:cK h.n e.n=false:=by rw[<-yB];exact Y
    have U:cK e.n h.n=true:=wU _ _ D (S h O);refine⟨(s,i),⟨ag,by show i<=a.length;omega,H,fun d z=>?_⟩,by show i-s<p-s;omega,.same ⟨rfl,rfl,rfl,rfl,rfl,rfl,int_eq j,tv⟩ rfl,rfl,rfl⟩;have:a[i]?=some d:=z;rw[E]at this;cases this;exact U
  ·have X:p<=s:=by have q:g+p<=g+s:=dM W;omega
   obtain rfl:s=p:=om;have P:=Hb ak B s v H F;refine cw (eh:=Sv d n f g b 10 (g+s) 13 (f+0)) (fN:=[.row (ew d) (dz d (k++(a.take 0++(e::(a.drop 0++l)))))]) (.same ⟨Z,Z,Z,Z,Z,Z,Z,tv⟩ Z) ?_;refine b5.iter (fun c:Nat=>Sv d n f g b 10 (g+s) 13 (f+c)) (fun c=>[.row (ew d) (dz d (k++(a.take c++(e::(a.drop c++l)))))]) (fun c=>s-c) (fun c=>c<=s) ?_ 0 (YT _);intro c ax;have J:IntKind.i64.wrap (Ym (g+s)-1)=Ym (f+s):=by
    have:=fV (a:=g+s) (b:=1) om om;rw[show g+s-1=f+s from by omega]at this;exact this
   apply aZ<;>intro M
   ·have r:c<s:=by
     have q:=of_decide_eq_true M;rw[J]at q;simp only[Yp]at q;omega
    have L:c<a.length:=om;have ai:a.drop c=a[c]::a.drop (c+1):=YA L;have am:a.take (c+1)=a.take c++[a[c]]:=by rw[YG,Yl L];rfl
    have R:(a.take c).length=c:=by simp;omega
    have af:k++(a.take c++(e::(a.drop c++l)))=(k++a.take c)++e::([]++a[c]::(a.drop (c+1)++l)):=by rw[ai];simp only[Yn,Yy,Yw]
    have ae:k++(a.take (c+1)++(e::(a.drop (c+1)++l)))=(k++a.take c)++a[c]::([]++e::(a.drop (c+1)++l)):=by rw[am];simp only[Yn,Yy,Yw]
    have t:f+c=(k++a.take c).length:=by rw[Ys,R];omega
    have I:=rC (k++a.take c) ([]++a[c]::(a.drop (c+1)++l)) e (f+c) t;have G:=wV (k++a.take c) [] (a.drop (c+1)++l) e a[c] (f+c+1) (by rw[<-t];rfl);have y:=EL (k++a.take c) [] (a.drop (c+1)++l) e a[c] (f+c) (f+c+1) t (by rw[<-t];rfl);rw[<-af]at I G y;rw[<-ae]at y;generalize a[c]=h at I G y;generalize ao:k++(a.take c++(e::(a.drop c++l)))=A at I G y;have m:nth (dz d A) (0+(f+c))=some ((wW d e).map V.d):=by rw[Yo];exact hV I
    have o:nth (dz d A) (0+(f+c+1))=some ((wW d h).map V.d):=by rw[Yo];exact hV G
    have Q:nth ((dz d A).set (0+(f+c)) ((wW d h).map V.d)) (0+(f+c+1))=some ((wW d h).map V.d):=by
     rw[cz,YL om,<-cz];exact o
    have j:IntKind.i64.wrap (Ym (f+c)+1)=Ym (f+c+1):=cq om;have w:f+c+1<n:=om;have u:f+c<n:=om;repeat first
     |refine bZ j ?_
     |refine bZ rfl ?_
     |refine b7 _ Q ?_
     |refine b7 _ m ?_
     |refine b7 _ o ?_
     |refine a7 w ?_
     |refine a7 u ?_
     |refine b4 ?_
    refine⟨c+1,r,by show s-(c+1)<s-c;omega,.same ⟨rfl,rfl,rfl,rfl,rfl,rfl,int_eq j,tv⟩ ?_,rfl,rfl⟩;rw[<-y,<-ns,<-ns,Yo,Yo];rfl
   ·have r:c=s:=by
     have q:=of_decide_eq_false M;rw[J]at q;simp only[Yp]at q;omega
    subst r;refine⟨?_,Z⟩;rw[P];simp<;>exact⟨rfl,rfl⟩
theorem Hd(e:Bool)(j a:List FE)(f:FE)(k:List FE)(aw:a.length≠1)(ak:lA FE.n a)(D:((a++[f]).map FE.n).Nodup)(n d q b:Nat)(aq:n=(j++(a++(f::k))).length)(aB:d=j.length)(ag:q=d+a.length)(az:b=q+1)(aA:n<4294967296):
  b3 C cn (Mv e) [.ms 0 (ew e) 0 n n,b6 d,b6 q,b6 b,(mO e)] [.row (ew e) (dz e (j++(a++(f::k))))] fun ay ae=>ae=[.row (ew e) (dz e (j++(ct FE.n (a++[f])++k)))]/\ay=.ret (.dN []):=by
 have x:e=e:=rfl;cases e;all_goals
  let e:Bool:=yz x
  have av:n=j.length+(a.length+(k.length+1)):=by rw[aq];simp
  have R:∀h∈a,h.n≠f.n:=by
   intro h aj am;rw[Yx,Yu]at D;exact D.2.2 h.n (YD aj) f.n sm am
  have U:IntKind.i64.wrap (Ym q-Ym d)≠1:=by
   rw[fV om om,show q-d=a.length from by omega];simp only[Yp];omega
  have T:IntKind.i64.wrap (Ym b-Ym q)=1:=by
   rw[fV om om,show b-q=1 from by omega];rfl
  have ar:(j++(a++(f::k)))[q]?=some f:=by
   have:=rC (j++a) k f q (by simp;omega);rw[Yn]at this;exact this
  have al:∀s (g:s<a.length),(j++(a++(f::k)))[d+s]?=some a[s]:=by
   intro s g;rw[Yt om,show d+s-j.length=s from om,YC g,Yl g]
  refine cA ?_;refine a1 (decide_eq_false U) ?_;refine a8 (decide_eq_true T) ?_;refine cw (eh:=Sv e n d q b 14 (d+0) 15 (d+a.length)) (fN:=[.row (ew e) (dz e (j++(a++(f::k))))]) (.same ⟨Z,Z,Z,Z,Z,Z,by rw[<-ag];rfl,tv⟩ rfl) ?_;refine b5.iter (fun v:Nat×Nat=>Sv e n d q b 14 (d+v.1) 15 (d+v.2)) (fun _=>[.row (ew e) (dz e (j++(a++(f::k))))]) (fun v=>v.2-v.1)
   (fun v=>v.1<=v.2/\v.2<=a.length/\(∀h,0<v.1->a[v.1-1]?=some h->cK h.n f.n=true)/\(∀h,a[v.2]?=some h->cK f.n h.n=true)) ?_ (0,a.length) ⟨YT _,Yv _,fun h g=>absurd g (YQ _),fun h g=>by rw[YJ (Yv _)]at g;cases g⟩
  rintro⟨s,p⟩ ⟨J,m,G,E⟩;have J:s<=p:=J;have m:p<=a.length:=m;have G:∀h,0<s->a[s-1]?=some h->cK h.n f.n=true:=G;have E:∀h,a[p]?=some h->cK f.n h.n=true:=E;apply aZ<;>intro aa
  ·have ab:s<p:=by have O:d+s<d+p:=fq aa;omega
   have i:=half (i:=d+s) (j:=d+p) om;obtain⟨g,ap⟩:∃g,(d+s+(d+p))/2=d+g:=⟨(s+p)/2,om⟩;rw[ap]at i;have W:s<=g:=om;have Y:g<p:=om;have I:=al g om;have B:a[g]?=some a[g]:=Yl om;have M:a[g]∈a:=YR _;generalize a[g]=h at I B M;have o:nth (dz e (j++(a++(f::k)))) (0+(d+g))=some ((wW e h).map V.d):=by rw[Yo];exact hV I
   have l:nth (dz e (j++(a++(f::k)))) (0+q)=some ((wW e f).map V.d):=by rw[Yo];exact hV ar
   have r:d+g<n:=om;have u:q<n:=om;repeat first
    |refine bZ i ?_
    |refine bZ rfl ?_
    |refine b7 _ o ?_
    |refine b7 _ l ?_
    |refine a7 r ?_
    |refine a7 u ?_
    |refine b4 ?_
   refine tT e f h ?_;repeat first
    |refine bZ i ?_
    |refine bZ rfl ?_
    |refine b7 _ o ?_
    |refine b7 _ l ?_
    |refine a7 r ?_
    |refine a7 u ?_
    |refine b4 ?_
   apply aZ<;>intro ac
   ·have z:cK f.n h.n=false:=by rw[<-yB];simpa using ac
    have S:cK h.n f.n=true:=wU _ _ z (fun g=>R h M g.symm);refine⟨(g+1,p),⟨Y,m,fun e _ x=>?_,E⟩,by show p-(g+1)<p-s;omega,.same ⟨rfl,rfl,rfl,rfl,rfl,int_eq ?_,rfl,tv⟩ rfl,rfl,rfl⟩
    ·have:a[g]?=some e:=x;rw[B]at this;cases this;exact S
    ·rw[i];exact cq om
   ·have z:cK f.n h.n=true:=by rw[<-yB];simpa using ac
    refine⟨(s,g),⟨W,by show g<=a.length;omega,G,fun e x=>?_⟩,by show g-s<p-s;omega,.same ⟨rfl,rfl,rfl,rfl,rfl,rfl,int_eq i,tv⟩ rfl,rfl,rfl⟩;have:a[g]?=some e:=x;rw[B]at this;cases this;exact z
  ·have ab:p<=s:=by have O:d+p<=d+s:=dM aa;omega
   obtain rfl:s=p:=om;have N:=JF ak D s m G E;refine cw (eh:=Sv e n d q b 14 (d+s) 17 (d+a.length)) (fN:=[.row (ew e) (dz e (j++(a.take a.length++(f::(a.drop a.length++k)))))]) (.same ⟨Z,Z,Z,Z,Z,Z,by rw[<-ag];rfl,tv⟩ (by rw[List.take_length,List.drop_length];rfl)) ?_;refine b5.iter (fun c:Nat=>Sv e n d q b 14 (d+s) 17 (d+c)) (fun c=>[.row (ew e) (dz e (j++(a.take c++(f::(a.drop c++k)))))]) (fun c=>c) (fun c=>s<=c/\c<=a.length) ?_ a.length ⟨m,Yv _⟩;rintro c ⟨ax,au⟩;apply aZ<;>intro L
   ·have A:s<c:=by have O:d+s<d+c:=fq L;omega
    obtain⟨c,rfl⟩:∃aC,c=aC+1:=⟨c-1,om⟩;have K:c<a.length:=om;have an:a.drop c=a[c]::a.drop (c+1):=YA K;have ao:a.take (c+1)=a.take c++[a[c]]:=by rw[YG,Yl K];rfl
    have X:(a.take c).length=c:=by simp;omega
    have ai:j++(a.take (c+1)++(f::(a.drop (c+1)++k)))=(j++a.take c)++a[c]::([]++f::(a.drop (c+1)++k)):=by rw[ao];simp only[Yn,Yy,Yw]
    have ah:j++(a.take c++(f::(a.drop c++k)))=(j++a.take c)++f::([]++a[c]::(a.drop (c+1)++k)):=by rw[an];simp only[Yn,Yy,Yw]
    have t:d+c=(j++a.take c).length:=by rw[Ys,X];omega
    have H:=rC (j++a.take c) ([]++f::(a.drop (c+1)++k)) a[c] (d+c) t;have F:=wV (j++a.take c) [] (a.drop (c+1)++k) a[c] f (d+(c+1)) (by rw[<-t];rfl);have w:=G8 (j++a.take c) [] (a.drop (c+1)++k) a[c] f (d+c) (d+(c+1)) t (by rw[<-t];rfl);rw[<-ai]at H F w;rw[<-ah]at w;generalize a[c]=h at H F w;generalize P:j++(a.take (c+1)++(f::(a.drop (c+1)++k)))=y at H F w;have l:nth (dz e y) (0+(d+(c+1)))=some ((wW e f).map V.d):=by rw[Yo];exact hV F
    have o:nth (dz e y) (0+(d+c))=some ((wW e h).map V.d):=by rw[Yo];exact hV H
    have Q:nth ((dz e y).set (0+(d+(c+1))) ((wW e h).map V.d)) (0+(d+c))=some ((wW e h).map V.d):=by
     rw[cz,YL om,<-cz];exact o
    have i:IntKind.i64.wrap (Ym (d+(c+1))-1)=Ym (d+c):=by
     have:=fV (a:=d+(c+1)) (b:=1) om om;rw[show d+(c+1)-1=d+c from by omega]at this;exact this
    have r:d+(c+1)<n:=om;have u:d+c<n:=om;subst P;repeat first
     |refine bZ i ?_
     |refine bZ rfl ?_
     |refine b7 _ Q ?_
     |refine b7 _ l ?_
     |refine b7 _ o ?_
     |refine a7 r ?_
     |refine a7 u ?_
     |refine b4 ?_
    refine⟨c,⟨om,om⟩,by show c<c+1;omega,.same ⟨rfl,rfl,rfl,rfl,rfl,rfl,int_eq i,tv⟩ ?_,rfl,rfl⟩;rw[<-w,<-ns,<-ns,Yo,Yo];rfl
   ·have A:c=s:=by have O:d+c<=d+s:=dM L;omega
    subst A;refine⟨?_,Z⟩;rw[N];simp<;>exact⟨rfl,rfl⟩
def EN(c:Bool)(l:Nat):Prop:=∀(f b a g:List FE),0<b.length->0<a.length->lA FE.n b->lA FE.n a->((b++a).map FE.n).Nodup->∀(e h i j:Nat),e=(f++(b++(a++g))).length->h=f.length->i=h+b.length->j=i+a.length->e<4294967296->b.length+a.length<=l->
  b3 C cn (Mv c) [.ms 0 (ew c) 0 e e,b6 h,b6 i,b6 j,(mO c)] [.row (ew c) (dz c (f++(b++(a++g))))] fun k d=>d=[.row (ew c) (dz c (f++(ct FE.n (b++a)++g)))]/\k=.ret (.dN [])
theorem AQ(d:Bool)(F:Nat)(B:EN d F)(e a c g:List FE)(y:0<a.length)(w:0<c.length)(x:lA FE.n a)(s:lA FE.n c)(k:((a++c).map FE.n).Nodup)(n p q b:Nat)(G:List FE)(t:G=e++(a++(c++g)))(D:p=e.length)(A:q=p+a.length)(r:b=q+c.length)(z:n=e.length+(a.length+(c.length+g.length))∨n=(e++(a++(c++g))).length)(v:n<4294967296)(E:a.length+c.length<=F) 
  {j l i:V} (o:j=b6 p) (f:l=b6 q) (m:i=b6 b) {K:cZ->VS->Prop} (u:K (.ret (.dN [])) [.row (ew d) (dz d (e++(ct FE.n (a++c)++g)))]):b3 C cn (Mv d) [.ms 0 (ew d) 0 n n,j,l,i,(mO d)] [.row (ew d) (dz d G)] K:=by
 subst o f m t;refine(B e a c g y w x s k n p q b ?_ D A r v E).mono (fun I H h=>?_)
 ·rcases z with h|h
  ·rw[h];simp
  ·exact h
 ·rw[h.1,h.2];exact u
theorem He(a:Bool)(c d e l:List FE)(r:0<d.length)(v:0<e.length)(n m s b:Nat)(x:List FE)(o:x=c++(d++(e++l)))(t:n=c.length+(d.length+(e.length+l.length)))(w:m=c.length)(u:s=c.length+d.length)(A:b=c.length+d.length+e.length)(q:n<4294967296) 
  {h i g:V} (k:h=b6 m) (f:i=b6 s) (j:g=b6 b) {K:cZ->VS->Prop} (p:K (.ret (.dN [])) [.row (ew a) (dz a (c++(e++(d++l))))]):b3 C cn (UR a) [.ms 0 (ew a) 0 n n,h,i,g,(mO a)] [.row (ew a) (dz a x)] K:=by
 subst k f j o;refine(EM a c d e l r v n m s b (by rw[t];simp) w u om q).mono (fun B y z=>?_);rw[z.1,z.2];exact p
def WA:Nat->Bool:=fun a=>YU a 1000032||YU a 1000041||YU a 1000043
def WB(d:Bool)(n g c b a e f:Nat):Tm:=[(0,.ms 0 (ew d) 0 n n),(1,b6 g),(2,b6 c),(3,b6 b),(4,(mO d)),(18,b6 a),(19,b6 (a+c)),(20,b6 e),(21,b6 f)]
def Sw(d:Bool)(n f g b a e c:Nat):Tm:=[(0,.ms 0 (ew d) 0 n n),(1,b6 f),(2,b6 g),(3,b6 b),(4,(mO d)),(18,b6 a),(20,b6 e),(24,b6 c)]
def Xy(d:Bool)(n g c b a e f:Nat):Tm:=[(0,.ms 0 (ew d) 0 n n),(1,b6 g),(2,b6 c),(3,b6 b),(4,(mO d)),(18,b6 a),(19,b6 (a+c)),(20,b6 e),(21,b6 f),(22,b6 (a+c-1))]
theorem XV{a d c b:Nat}(g:b=a+d-c)(e:b<=d)(f:c<=d):a-c=0:=om
theorem XW{a d c b:Nat}(g:b=a+d-c)(e:b<=a)(f:c<=a):d-c=0:=om
theorem XX{a d c b:Nat}(g:b=a+d-c)(e:d<b)(f:c<=d):0<a-c:=om
theorem XY{a d c b:Nat}(g:b=a+d-c)(e:a<b)(f:c<=a):0<d-c:=om
abbrev OU(b a:Nat):Int:=IntKind.i64.wrap (YZ (IntKind.u64.wrap (IntKind.i64.wrap (Ym b+Ym a))) (2^(min 1 IntKind.u64.bits)))
theorem Hf(g:Bool)(aP:Nat)(aX:EN g aP)(j d e p:List FE)(bL:1<d.length)(bO:1<e.length)(aI:lA FE.n d)(aF:lA FE.n e)(ab:((d++e).map FE.n).Nodup)(n c f b:Nat)(bK:n=(j++(d++(e++p))).length)(bI:c=j.length)(bR:f=c+d.length)(bQ:b=f+e.length)(aH:n<4294967296)(bS:d.length+e.length<=aP+1):
  b3 C cn (Mv g) [.ms 0 (ew g) 0 n n,b6 c,b6 f,b6 b,(mO g)] [.row (ew g) (dz g (j++(d++(e++p))))] fun K bz=>bz=[.row (ew g) (dz g (j++(ct FE.n (d++e)++p)))]/\K=.ret (.dN []):=by
 have aG:g=g:=rfl;cases g;all_goals
  let g:Bool:=yz aG
  have bM:n=j.length+(d.length+(e.length+p.length)):=by rw[bK];simp
  have aK:∀o∈d,∀g∈e,o.n≠g.n:=by
   intro o bC g aG bH;rw[Yx,Yu]at ab;exact ab.2.2 o.n (YD bC) g.n (YD aG) bH
  have aV:IntKind.i64.wrap (Ym f-Ym c)≠1:=by
   rw[fV om om,show f-c=d.length from by omega];simp only[Yp];omega
  have aS:IntKind.i64.wrap (Ym b-Ym f)≠1:=by
   rw[fV om om,show b-f=e.length from by omega];simp only[Yp];omega
  have bD:∀s (O:s<d.length),(j++(d++(e++p)))[c+s]?=some d[s]:=by
   intro s O;rw[Yt om,show c+s-j.length=s from om,YC O,Yl O]
  have bJ:∀s (O:s<e.length),(j++(d++(e++p)))[f+s]?=some e[s]:=by
   intro s O;rw[Yt om,Yt om,show f+s-j.length-d.length=s from om,YC O,Yl O]
  obtain⟨a,aW⟩:∃a,(c+b)/2=a:=⟨_,rfl⟩;have t:OU c b=Ym a:=by rw[<-aW];exact half om
  have W:IntKind.i64.wrap (OU c b+Ym f)=Ym (a+f):=by rw[t,eb om]
  have bG:IntKind.i64.wrap (Ym (a+f)-1)=Ym (a+f-1):=fV (b:=1) om om;refine b3.body WA (fun _=>Z) ?_;refine a1 (decide_eq_false aV) ?_;refine a1 (decide_eq_false aS) ?_;refine bZ Z ?_;apply eg (ι:=Nat×Nat) (T:=fun o=>WB g n c f b a o.1 o.2) (S:=fun _=>[.row (ew g) (dz g (j++(d++(e++p))))])
   (I:=fun o=>c<=o.1/\o.1<=o.2/\o.2<=f/\o.2<=a/\a+f<=o.1+b/\(o.1=c∨(b<=a+f/\o.1=a+f-b))/\(o.2=f∨o.2=a))
  ·intro G;apply aZ<;>intro ax
   ·have aC:a<f:=by
     have i:decide (OU c b<Ym f)=true:=ax;rw[t]at i;exact fq i
    have bB:IntKind.i64.wrap (IntKind.i64.wrap (OU c b+Ym f)-Ym b)=Ym (a+f-b):=by
     rw[W];exact fV om om
    exact cw (eh:=WB g n c f b a (a+f-b) a) (fN:=[.row (ew g) (dz g (j++(d++(e++p))))]) (.same ⟨Z,Z,Z,Z,Z,int_eq t,int_eq W,int_eq bB,int_eq t,tv⟩ Z) (G (a+f-b,a) ⟨by show c<=a+f-b;omega,by show a+f-b<=a;omega,by show a<=f;omega,Yv _,by show a+f<=a+f-b+b;omega,.inr ⟨om,rfl⟩,.inr rfl⟩)
   ·have aC:f<=a:=by
     have i:decide (OU c b<Ym f)=false:=ax;rw[t]at i;exact dM i
    exact cw (eh:=WB g n c f b a c f) (fN:=[.row (ew g) (dz g (j++(d++(e++p))))]) (.same ⟨Z,Z,Z,Z,Z,int_eq t,int_eq W,Z,Z,tv⟩ Z) (G (c,f) ⟨Yv _,by show c<=f;omega,Yv _,aC,by show a+f<=c+b;omega,.inl rfl,.inl rfl⟩)
  ·rintro⟨u,r⟩ ⟨f1,f2,f3,f4,f7,f5,f6⟩;have f1:c<=u:=f1;have f2:u<=r:=f2;have f3:r<=f:=f3;have f4:r<=a:=f4;have f7:a+f<=u+b:=f7;have f5:u=c∨(b<=a+f/\u=a+f-b):=f5;have f6:r=f∨r=a:=f6;refine cw (eh:=Xy g n c f b a u r) (fN:=[.row (ew g) (dz g (j++(d++(e++p))))]) (.same ⟨Z,Z,Z,Z,Z,Z,Z,Z,Z,int_eq bG,tv⟩ Z) ?_;refine b5.iter (fun o:Nat×Nat=>Xy g n c f b a o.1 o.2) (fun _=>[.row (ew g) (dz g (j++(d++(e++p))))]) (fun o=>o.2-o.1)
    (fun o=>u<=o.1/\o.1<=o.2/\o.2<=r/\(∀B E,u<o.1->d[o.1-1-c]?=some B->e[a-o.1]?=some E->cK B.n E.n=true)/\(∀B E,o.2<r->e[a-1-o.2]?=some B->d[o.2-c]?=some E->cK B.n E.n=true)) ?_ (u,r) ⟨Yv _,f2,Yv _,fun B E O=>absurd O (YQ _),fun B E O=>absurd O (YQ _)⟩
   rintro⟨s,K⟩ ⟨aN,bs,aO,ak,aj⟩;have aN:u<=s:=aN;have bs:s<=K:=bs;have aO:K<=r:=aO;have ak:∀B E,u<s->d[s-1-c]?=some B->e[a-s]?=some E->cK B.n E.n=true:=ak;have aj:∀B E,K<r->e[a-1-K]?=some B->d[K-c]?=some E->cK B.n E.n=true:=aj;apply aZ<;>intro ba
   ·have bb:s<K:=fq ba;have H:=half (i:=s) (j:=K) om;obtain⟨k,bE⟩:∃k,(s+K)/2=k:=⟨_,rfl⟩;rw[bE]at H;have bi:s<=k:=om;have bA:k<K:=om;have av:a-1-k<e.length:=om;have an:k-c<d.length:=om;have ap:=bJ (a-1-k) av;have ao:=bD (k-c) an;have R:e[a-1-k]?=some e[a-1-k]:=Yl av;have aa:d[k-c]?=some d[k-c]:=Yl an;have P:=aK d[k-c] (YR _) e[a-1-k] (YR _);generalize d[k-c]=B at ao aa P;generalize e[a-1-k]=E at ap R P;have aw:nth (dz g (j++(d++(e++p)))) (0+(f+(a-1-k)))=some ((wW g E).map V.d):=by rw[Yo];exact hV ap
    have ay:nth (dz g (j++(d++(e++p)))) (0+k)=some ((wW g B).map V.d):=by rw[Yo,show k=c+(k-c)from by omega];exact hV ao
    have au:f+(a-1-k)<n:=om;have aD:k<n:=om;have aE:IntKind.i64.wrap (Ym (a+f-1)-IntKind.i64.wrap (YZ (IntKind.u64.wrap (IntKind.i64.wrap (Ym s+Ym K))) (2^(min 1 IntKind.u64.bits))))=Ym (f+(a-1-k)):=by
     rw[H,fV om om];congr 1;omega
    repeat first
     |refine bZ aE ?_
     |refine bZ H ?_
     |refine bZ rfl ?_
     |refine b7 _ aw ?_
     |refine b7 _ ay ?_
     |refine a7 au ?_
     |refine a7 aD ?_
     |refine b4 ?_
    refine tT g E B ?_;repeat first
     |refine bZ aE ?_
     |refine bZ H ?_
     |refine bZ rfl ?_
     |refine b7 _ aw ?_
     |refine b7 _ ay ?_
     |refine a7 au ?_
     |refine a7 aD ?_
     |refine b4 ?_
    apply aZ<;>intro bt
    ·have X:cK E.n B.n=false:=by rw[<-yB];simpa using bt
     have bj:cK B.n E.n=true:=wU _ _ X (fun O=>P O.symm);refine⟨(k+1,K),⟨by show u<=k+1;omega,bA,aO,fun aM aL _ w l=>?_,aj⟩,by show K-(k+1)<K-s;omega,.same ⟨rfl,rfl,rfl,rfl,rfl,rfl,rfl,int_eq ?_,rfl,rfl,tv⟩ rfl,rfl,rfl⟩
     ·have w:d[k+1-1-c]?=some aM:=w;have l:e[a-(k+1)]?=some aL:=l;rw[show k+1-1-c=k-c from om,aa]at w;rw[show a-(k+1)=a-1-k from om,R]at l;cases w;cases l;exact bj
     ·rw[H];exact cq om
    ·have X:cK E.n B.n=true:=by rw[<-yB];simpa using bt
     refine⟨(s,k),⟨aN,bi,by show k<=r;omega,ak,fun aM aL _ w l=>?_⟩,by show k-s<K-s;omega,.same ⟨rfl,rfl,rfl,rfl,rfl,rfl,rfl,rfl,int_eq H,rfl,tv⟩ rfl,rfl,rfl⟩;have w:e[a-1-k]?=some aM:=w;have l:d[k-c]?=some aL:=l;rw[R]at w;rw[aa]at l;cases w;cases l;exact X
   ·have bb:K<=s:=dM ba;obtain rfl:s=K:=om;have aJ:=Mu (key:=FE.n) aI aF ab (s-c) (a-s) om om
     (fun B E i w l=>by
      rcases Y1 u s with h1|h1
      ·exact ak B E h1 (by rw[show s-1-c=s-c-1 from by omega];exact w) l
      ·exfalso;rcases f5 with h2|h2
       ·omega
       ·rw[YJ om]at l;cases l)
     (fun B E i w l=>by
      rcases Y1 s r with h1|h1
      ·exact aj B E h1 (by rw[show a-1-s=a-s-1 from by omega];exact w) l
      ·exfalso;rcases f6 with h2|h2
       ·rw[YJ om]at l;cases l
       ·omega)
    obtain⟨M,D,A⟩:=aJ;have az:=aI.take (s-c);have ar:=aI.drop (s-c);have aA:=aF.take (a-s);have aB:=aF.drop (a-s);have z:(d.take (s-c)).length=s-c:=by simp;omega
    have m:(d.drop (s-c)).length=f-s:=by simp;omega
    have q:(e.take (a-s)).length=a-s:=by simp;omega
    have J:(e.drop (a-s)).length=b-(a+f-s):=by simp;omega
    have bg:d=d.take (s-c)++d.drop (s-c):=(Yq _ _).symm;have bu:e=e.take (a-s)++e.drop (a-s):=(Yq _ _).symm;have ad:((d.take (s-c)).map FE.n).Nodup:=by rw[Yx,Yu]at D;exact D.1
    have af:((e.take (a-s)).map FE.n).Nodup:=by rw[Yx,Yu]at D;exact D.2.1
    have al:((d.drop (s-c)).map FE.n).Nodup:=by rw[Yx,Yu]at A;exact A.1
    have ag:((e.drop (a-s)).map FE.n).Nodup:=by rw[Yx,Yu]at A;exact A.2.1
    have L:j++(d++(e++p))=j++(d.take (s-c)++(d.drop (s-c)++(e.take (a-s)++(e.drop (a-s)++p)))):=by
     conv=>lhs;rw[bg,bu]
     simp only[Yn]<;>first|exact rfl|exact⟨rfl,rfl⟩
    obtain⟨h,F⟩:∃h,h=a+f-s:=⟨_,rfl⟩;have v:IntKind.i64.wrap (Ym (a+f)-Ym s)=Ym h:=by rw[fV om om,F]
    have N:(j++(d.take (s-c))).length=s:=by rw[Ys,z];omega
    have aq:((e.drop (a-s))++p).length=b-(a+f-s)+p.length:=by rw[Ys,J]
    have aU:((d.drop (s-c))++((e.drop (a-s))++p)).length=f-s+(b-(a+f-s)+p.length):=by rw[Ys,m,aq]
    have br:(j++ct FE.n ((d.take (s-c))++(e.take (a-s)))).length=a:=by rw[Ys,eK,Ys,z,q];omega
    have aT:s<=a:=om;have bl:s<=f:=om;have aR:s=(j++(d.take (s-c))).length:=N.symm;have bc:f=(j++(d.take (s-c))).length+((d.drop (s-c))).length:=by rw[N,m];omega
    have bv:h=(j++(d.take (s-c))).length+((d.drop (s-c))).length+((e.take (a-s))).length:=by rw[N,m,q];omega
    have bx:n=(j++(d.take (s-c))).length+(((d.drop (s-c))).length+(((e.take (a-s))).length+((e.drop (a-s))++p).length)):=by rw[N,m,q,aq];omega
    have bw:s=c+((d.take (s-c))).length:=by rw[z];omega
    have bf:a=s+((e.take (a-s))).length:=by rw[q];omega
    have bn:n=j.length+(((d.take (s-c))).length+(((e.take (a-s))).length+((d.drop (s-c))++((e.drop (a-s))++p)).length)):=by rw[z,q,aU];omega
    have aQ:((d.take (s-c))).length+((e.take (a-s))).length<=aP:=by rw[z,q];omega
    have bh:a=(j++ct FE.n ((d.take (s-c))++(e.take (a-s)))).length:=br.symm;have bo:h=a+((d.drop (s-c))).length:=by rw[m];omega
    have aY:b=h+((e.drop (a-s))).length:=by rw[J];omega
    have bk:n=(j++ct FE.n ((d.take (s-c))++(e.take (a-s)))).length+(((d.drop (s-c))).length+(((e.drop (a-s))).length+p.length)):=by rw[br,m,J];omega
    have bq:((d.drop (s-c))).length+((e.drop (a-s))).length<=aP:=by rw[m,J];omega
    apply eg (ι:=Unit) (T:=fun _=>Sw g n c f b a s h) (S:=fun _=>[.row (ew g) (dz g (j++((d.take (s-c))++((e.take (a-s))++((d.drop (s-c))++((e.drop (a-s))++p))))))]) (I:=fun _=>True)
    ·intro G;apply aZ<;>intro ah
     ·have Y:s<f:=fq ah;repeat refine a8 ah ?_
      apply aZ<;>intro ae
      ·have T:f<h:=by rw[v]at ae;exact fq ae
       repeat refine e4 ?_
       refine He g (j++(d.take (s-c))) (d.drop (s-c)) (e.take (a-s)) ((e.drop (a-s))++p) (by rw[m];exact YO Y) (by rw[q];exact XX F T bl) n s f h _ (by rw[L];simp only[Yn]) bx aR bc bv aH rfl rfl (vi v) ?_;refine cw (eh:=Sw g n c f b a s h) (fN:=[.row (ew g) (dz g (j++((d.take (s-c))++((e.take (a-s))++((d.drop (s-c))++((e.drop (a-s))++p))))))]) (.same ⟨Z,Z,Z,Z,Z,Z,Z,int_eq v,tv⟩ (by simp only[Yn])) (G () trivial)
      ·have T:h<=f:=by rw[v]at ae;exact dM ae
       repeat refine e4 ?_
       refine cw (eh:=Sw g n c f b a s h) (fN:=[.row (ew g) (dz g (j++((d.take (s-c))++((e.take (a-s))++((d.drop (s-c))++((e.drop (a-s))++p))))))]) (.same ⟨Z,Z,Z,Z,Z,Z,Z,int_eq v,tv⟩ ?_) (G () trivial);have i:(e.take (a-s))=[]:=Yr (by rw[q];exact XV F T bl);rw[i]at L⊢;rw[L];rfl
     ·have Y:f<=s:=dM ah;repeat refine a1 ah ?_
      refine cw (eh:=Sw g n c f b a s h) (fN:=[.row (ew g) (dz g (j++((d.take (s-c))++((e.take (a-s))++((d.drop (s-c))++((e.drop (a-s))++p))))))]) (.same ⟨Z,Z,Z,Z,Z,Z,Z,int_eq v,tv⟩ ?_) (G () trivial);have i:(d.drop (s-c))=[]:=Yr (by rw[m];exact YH Y);rw[i]at L⊢;rw[L];rfl
    ·intro _ _;apply eg (ι:=Unit) (T:=fun _=>Sw g n c f b a s h) (S:=fun _=>[.row (ew g) (dz g (j++(ct FE.n ((d.take (s-c))++(e.take (a-s)))++((d.drop (s-c))++((e.drop (a-s))++p)))))]) (I:=fun _=>True)
     ·intro G;apply aZ<;>intro ai
      ·have ac:c<s:=fq ai;repeat refine a8 ai ?_
       apply aZ<;>intro bp
       ·have S:s<a:=fq bp;repeat refine e4 ?_
        refine AQ g aP aX j (d.take (s-c)) (e.take (a-s)) ((d.drop (s-c))++((e.drop (a-s))++p)) (by rw[z];exact YO ac) (by rw[q];exact YO S) az aA D n c s a _ rfl bI bw bf (.inl bn) aH aQ rfl rfl rfl ?_;refine cw (eh:=Sw g n c f b a s h) (fN:=[.row (ew g) (dz g (j++(ct FE.n ((d.take (s-c))++(e.take (a-s)))++((d.drop (s-c))++((e.drop (a-s))++p)))))]) (.same ⟨Z,Z,Z,Z,Z,Z,Z,Z,tv⟩ Z) (G () trivial)
       ·have S:a<=s:=dM bp;repeat refine e4 ?_
        refine cw (eh:=Sw g n c f b a s h) (fN:=[.row (ew g) (dz g (j++(ct FE.n ((d.take (s-c))++(e.take (a-s)))++((d.drop (s-c))++((e.drop (a-s))++p)))))]) (.same ⟨Z,Z,Z,Z,Z,Z,Z,Z,tv⟩ ?_) (G () trivial);have i:(e.take (a-s))=[]:=Yr (by rw[q];exact YH S);rw[i,YY,mN ad (List.Perm.refl _) az];rfl
      ·have ac:s<=c:=dM ai;repeat refine a1 ai ?_
       refine cw (eh:=Sw g n c f b a s h) (fN:=[.row (ew g) (dz g (j++(ct FE.n ((d.take (s-c))++(e.take (a-s)))++((d.drop (s-c))++((e.drop (a-s))++p)))))]) (.same ⟨Z,Z,Z,Z,Z,Z,Z,Z,tv⟩ ?_) (G () trivial);have i:(d.take (s-c))=[]:=Yr (by rw[z];exact YH ac);rw[i];simp only[Yw];rw[mN af (List.Perm.refl _) aA]
     ·intro _ _;apply aZ<;>intro am
      ·have U:a<h:=fq am;repeat refine a8 am ?_
       apply aZ<;>intro bm
       ·have Q:h<b:=fq bm;repeat refine e4 ?_
        refine AQ g aP aX (j++ct FE.n ((d.take (s-c))++(e.take (a-s)))) (d.drop (s-c)) (e.drop (a-s)) p (by rw[m];exact XY F U aT) (by rw[J,<-F];exact YO Q) ar aB A n a h b _ (by simp only[Yn]) bh bo aY (.inl bk) aH bq rfl rfl rfl ?_;refine⟨?_,Z⟩;rw[M];simp only[Yn]<;>first|exact rfl|exact⟨rfl,rfl⟩
       ·have Q:b<=h:=dM bm;repeat refine e4 ?_
        refine⟨?_,Z⟩;have i:(e.drop (a-s))=[]:=Yr (by rw[J,<-F];exact YH Q);rw[M,i,YY,mN al (List.Perm.refl _) ar];simp only[Yn,Yw]<;>first|exact rfl|exact⟨rfl,rfl⟩
      ·have U:h<=a:=dM am;repeat refine a1 am ?_
       refine⟨?_,Z⟩;have i:(d.drop (s-c))=[]:=Yr (by rw[m];exact XW F U aT);rw[M,i];simp only[Yw];rw[mN ag (List.Perm.refl _) aB];simp only[Yn]<;>first|exact rfl|exact⟨rfl,rfl⟩
end Go.Proofs.YthlkhjchcjflkaaGreatDoor
