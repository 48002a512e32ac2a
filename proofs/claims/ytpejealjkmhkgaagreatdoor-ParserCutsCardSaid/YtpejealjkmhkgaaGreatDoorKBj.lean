/- Part of the proof. -/
import Derived.Test.YtpejealjkmhkgaaGreatDoorKBi
set_option linter.all false
set_option maxHeartbeats 16000000
set_option maxRecDepth 100000
open Nat renaming not_lt_zero->YL,le_refl->YO,zero_le->YQ,not_lt->YU
open List renaming getElem_mem->YM,getElem?_eq_getElem->YN,mem_append->YP,length_cons->YR,map_nil->YW,mem_singleton->YX
open Bool renaming and_eq_true->YS,true_or->YT
open Int renaming ofNat->YV
namespace Go.Proofs.YtpejealjkmhkgaaGreatDoor
open Go.AM Go.VM
variable{d:dC->VS->Prop} {j:VS}
theorem kJ(t:Ty)(h:List D)(a:gK t h)(b:pg t)(e:cJ t<4294967296)(c:d (.ret (ct true)) j):b1 C b7 rr [.agg (h.map V.d)] j d:=by
 obtain⟨n,o,k,p,l,rfl⟩:=a.di;exact cQ (ER t _ a b e) Z Z c
variable{g:List UInt8}
theorem w2(a:cM g=true):g.length<4294967296:=by
 simp only[cM,YS,decide_eq_true_eq]at a;omega
theorem w3(a:dB g=true):g.length<4294967296:=by
 simp only[dB,YS,decide_eq_true_eq]at a;omega
theorem hC(s:List UInt8)(h:s=[]∨cM s=true)(b:d (.ret (ct true)) j):b1 C b7 yW [cq s] j d:=by
 refine b9 ?_;rcases h with rfl|h
 ·exact b
 ·have a:s≠[]:=fun c=>by subst c;cases h
  refine a6 (decide_eq_false a) ?_;repeat refine a6 (decide_eq_false a) ?_
  refine fV s (w2 h) ?_;rw[h];repeat refine a6 (decide_eq_false a) ?_
  exact b
def sP(b:Bool):Nat:=if b then 7 else 0
theorem Bb(t:Ty)(M:List D)(y:gK t M)(K:pg t)(s:cJ t<4294967296):b1 C b7 oX [.agg (M.map V.d)] [] fun O L=>L=[]/\O=.ret (b3 (sP (pB t))):=by
 refine cz ?_;have q:=K;cases K with
 |base z=>
  rename_i I;cases y with
  |mk h b=>
   refine kJ _ _ (gK.mk h b) q s ?_;obtain rfl:=h.cV;have H:I=0∨I=1∨I=2∨I=3∨I=4:=om;rcases H with rfl|rfl|rfl|rfl|rfl
   ·rcases b.cV with rfl|⟨w,v,k,rfl⟩
    ·refine cI Z _ _ ee.nil dc (fun n p a=>absurd a (YL _)) ?_;refine c5 _ _ ee.nil dc List.Pairwise.nil ?_;exact a7 0 ⟨Z,Z⟩
    ·refine cI Z _ _ (ee.ps .nil) dc (fun n p a=>absurd a (YL _)) ?_;refine c5 _ _ (ee.ps .nil) dc List.Pairwise.nil ?_;exact a7 0 ⟨Z,Z⟩
   ·rcases b.cV with rfl|⟨w,v,k,rfl⟩
    ·refine cI Z _ _ ee.nil dc (fun n p a=>absurd a (YL _)) ?_;refine c5 _ _ ee.nil dc List.Pairwise.nil ?_;exact a7 0 ⟨Z,Z⟩
    ·refine cI Z _ _ (ee.ps .nil) dc (fun n p a=>absurd a (YL _)) ?_;refine c5 _ _ (ee.ps .nil) dc List.Pairwise.nil ?_;exact a7 0 ⟨Z,Z⟩
   ·rcases b.cV with rfl|⟨w,v,k,rfl⟩
    ·refine cI Z _ _ ee.nil dc (fun n p a=>absurd a (YL _)) ?_;refine c5 _ _ ee.nil dc List.Pairwise.nil ?_;exact a7 0 ⟨Z,Z⟩
    ·refine cI Z _ _ (ee.ps .nil) dc (fun n p a=>absurd a (YL _)) ?_;refine c5 _ _ (ee.ps .nil) dc List.Pairwise.nil ?_;exact a7 0 ⟨Z,Z⟩
   ·rcases b.cV with rfl|⟨w,v,k,rfl⟩
    ·refine cI Z _ _ ee.nil dc (fun n p a=>absurd a (YL _)) ?_;refine c5 _ _ ee.nil dc List.Pairwise.nil ?_;exact a7 0 ⟨Z,Z⟩
    ·refine cI Z _ _ (ee.ps .nil) dc (fun n p a=>absurd a (YL _)) ?_;refine c5 _ _ (ee.ps .nil) dc List.Pairwise.nil ?_;exact a7 0 ⟨Z,Z⟩
   ·rcases b.cV with rfl|⟨w,v,k,rfl⟩
    ·refine cI Z _ _ ee.nil dc (fun n p a=>absurd a (YL _)) ?_;refine c5 _ _ ee.nil dc List.Pairwise.nil ?_;exact a7 0 ⟨Z,Z⟩
    ·refine cI Z _ _ (ee.ps .nil) dc (fun n p a=>absurd a (YL _)) ?_;refine c5 _ _ (ee.ps .nil) dc List.Pairwise.nil ?_;exact a7 0 ⟨Z,Z⟩
 |list=>
  cases y with
  |mk h b=>
   refine kJ _ _ (gK.mk h b) q s ?_;obtain⟨Q,P,J,M,rfl⟩:=h.np;rcases b.cV with rfl|⟨w,v,k,rfl⟩
   ·refine cI Z _ _ ee.nil dc (fun n p a=>absurd a (YL _)) ?_;refine c5 _ _ ee.nil dc List.Pairwise.nil ?_;exact a7 0 ⟨Z,Z⟩
   ·refine cI Z _ _ (ee.ps .nil) dc (fun n p a=>absurd a (YL _)) ?_;refine c5 _ _ (ee.ps .nil) dc List.Pairwise.nil ?_;exact a7 0 ⟨Z,Z⟩
 |UI G=>
  cases y with
  |mk h b=>
   refine kJ _ _ (gK.mk h b) q s ?_;obtain rfl:=h.cV;have F:=(Ba s).1;cases b with
   |nil=>
    refine cI Z _ _ ee.nil dc (fun n p a=>absurd a (YL _)) ?_;refine c5 _ _ ee.nil dc List.Pairwise.nil ?_;exact a7 0 ⟨Z,Z⟩
   |ps b=>
    have l:=b.len;apply aZ<;>intro e
    ·have c:=fF (a:=32) e;rw[l]at c;repeat refine a8 e ?_
     exact a7 0 ⟨Z,by simp[pB,c,sP];rfl⟩
    ·have c:=dR (a:=32) e;rw[l]at c;repeat refine a6 e ?_
     refine cI Z _ _ (ee.ps b) om (fun n p a A _=>fun z=>ve n (by rw[<-A];exact G.name _ (YM a)) z) ?_;refine c5 _ _ (ee.ps b) om G.VZ ?_;exact a7 0 ⟨Z,by simp[pB,YU.2 c,sP];rfl⟩
 |XA G=>
  cases y with
  |mk h b=>
   refine kJ _ _ (gK.mk h b) q s ?_;obtain rfl:=h.cV;have F:=(Ba s).1;cases b with
   |nil=>
    refine cI Z _ _ ee.nil dc (fun n p a=>absurd a (YL _)) ?_;refine c5 _ _ ee.nil dc List.Pairwise.nil ?_;exact a7 0 ⟨Z,Z⟩
   |ps b=>
    have l:=b.len;apply aZ<;>intro e
    ·have c:=fF (a:=32) e;rw[l]at c;repeat refine a8 e ?_
     exact a7 0 ⟨Z,by simp[pB,c,sP];rfl⟩
    ·have c:=dR (a:=32) e;rw[l]at c;repeat refine a6 e ?_
     refine cI Z _ _ (ee.ps b) om (fun n p a A _=>fun z=>ve n (by rw[<-A];exact G.name _ (YM a)) z) ?_;refine c5 _ _ (ee.ps b) om G.VZ ?_;exact a7 0 ⟨Z,by simp[pB,YU.2 c,sP];rfl⟩
 |func G=>
  cases y with
  |mk h b=>
   refine kJ _ _ (gK.mk h b) q s ?_;obtain⟨Q,P,J,M,rfl⟩:=h.np;have F:=(Ba s).1;cases b with
   |nil=>
    refine cI Z _ _ ee.nil dc (fun n p a=>absurd a (YL _)) ?_;refine c5 _ _ ee.nil dc List.Pairwise.nil ?_;exact a7 0 ⟨Z,Z⟩
   |ps b=>
    have l:=b.len;apply aZ<;>intro e
    ·have c:=fF (a:=32) e;rw[l]at c;repeat refine a8 e ?_
     exact a7 0 ⟨Z,by simp[pB,c,sP];rfl⟩
    ·have c:=dR (a:=32) e;rw[l]at c;repeat refine a6 e ?_
     refine cI Z _ _ (ee.ps b) om (fun n p a A _=>fun z=>ve n (by rw[<-A];exact G.name _ (YM a)) z) ?_;refine c5 _ _ (ee.ps b) om G.VZ ?_;exact a7 0 ⟨Z,by simp[pB,YU.2 c,sP];rfl⟩
 |ref E u=>
  cases y with
  |mk h b=>
   refine kJ _ _ (gK.mk h b) q s ?_;cases h with
   |nil=>
    rcases b.cV with rfl|⟨w,v,k,rfl⟩
    ·refine hC _ E ?_;refine fk _ (w3 u) ?_;rw[u];refine cI Z _ _ ee.nil dc (fun n p a=>absurd a (YL _)) ?_;refine c5 _ _ ee.nil dc List.Pairwise.nil ?_;exact a7 0 ⟨Z,Z⟩
    ·refine hC _ E ?_;refine fk _ (w3 u) ?_;rw[u];refine cI Z _ _ (ee.ps .nil) dc (fun n p a=>absurd a (YL _)) ?_;refine c5 _ _ (ee.ps .nil) dc List.Pairwise.nil ?_;exact a7 0 ⟨Z,Z⟩
   |ps h N=>
    have x:=h.len;rcases b.cV with rfl|⟨w,v,k,rfl⟩
    ·apply aZ<;>intro e
     ·have o:=fF (a:=8) e;rw[x]at o;repeat refine a8 e ?_
      exact a7 0 ⟨Z,by simp[pB,o,sP];rfl⟩
     ·have o:=dR (a:=8) e;rw[x]at o;repeat refine a6 e ?_
      refine hC _ E ?_;refine fk _ (w3 u) ?_;rw[u];refine cI Z _ _ ee.nil dc (fun n p a=>absurd a (YL _)) ?_;refine c5 _ _ ee.nil dc List.Pairwise.nil ?_;exact a7 0 ⟨Z,by simp[pB,YU.2 o,sP];rfl⟩
    ·apply aZ<;>intro e
     ·have o:=fF (a:=8) e;rw[x]at o;repeat refine a8 e ?_
      exact a7 0 ⟨Z,by simp[pB,o,sP];rfl⟩
     ·have o:=dR (a:=8) e;rw[x]at o;repeat refine a6 e ?_
      refine hC _ E ?_;refine fk _ (w3 u) ?_;rw[u];refine cI Z _ _ (ee.ps .nil) dc (fun n p a=>absurd a (YL _)) ?_;refine c5 _ _ (ee.ps .nil) dc List.Pairwise.nil ?_;exact a7 0 ⟨Z,by simp[pB,YU.2 o,sP];rfl⟩
theorem Cl(t:Ty)(h:List D)(a:gK t h)(b:pg t)(e:cJ t<4294967296)(c:d (.ret (b3 (sP (pB t)))) j):b1 C b7 oX [.agg (h.map V.d)] j d:=by
 obtain⟨n,o,k,p,l,rfl⟩:=a.di;exact cQ (Bb t _ a b e) Z Z c
inductive gu:Ty->Prop
 |mk {t:Ty} (h:pg t) (hp:∀p∈eI t,gu p):gu t
theorem yE{l:List Ty}:od l=false↔∀b∈l,vb b=false:=by
 induction l with
 |nil=>simp[od]
 |cons c l a=>simp[od,a]
theorem JD{l:List Ty}{t:Ty}(c:t∈l)(a:vb t=true):od l=true:=by
 cases b:od l with
 |true=>rfl
 |false=>rw[yE.1 b t c]at a;cases a
def Sn(e c:List V)(l h:jl)(b:Bool)(k:dC)(a:VS):Prop:=match b with
 |true=>a=jc [b3 7] e c h/\k=.ret (ct false)
 |false=>a=jc [b3 0] e c l/\k=.ret (ct true)
theorem PH(k h:List V)(y z:jl)(c:e5 0 k=true)(e:e5 0 h=true)(B:fG 7 (.loop y)=true)(w:fG 7 (.loop z)=true)(T:∀s J,e5 0 s=true->e5 0 J=true->ln 9 (jc [b3 0] k h y++[.box s,.box J]) 9=true) 
  (g:∀(s:List V) (t:Ty) (u:List D) (d:dC->VS->Prop),gK t u->pg t->cJ t<4294967296->(pB t=false->d (.ret (ct true)) (jc [b3 0] k h y++[.box s,.box (u.map V.d)]))->(pB t=true->d (.ret (ct false)) (jc [b3 7] k h z++[.box s,.box (u.map V.d)]))->
   gT C b7 4 [.agg (u.map V.d)] (jc [b3 0] k h y++[.box s]) d) (n:Nat)
  (j:∀(t:Ty) (u:List D),cJ t<=n->gK t u->gu t->b1 C b7 eA [.agg (u.map V.d),.bp 5 0,.bp 6 0] (jc [b3 0] k h y) (Sn k h y z (vb t)))
  (t:Ty) (u:List D) (P:cJ t<=n+1) (ag:n+1<4294967296) (M:gK t u) (N:gu t):
  b1 C b7 eA [.agg (u.map V.d),.bp 5 0,.bp 6 0] (jc [b3 0] k h y) (Sn k h y z (vb t)):=by
 obtain⟨U,W,v,a,Q,rfl⟩:=M.di;have ab:=im t;cases N with
 |mk N H=>
 refine cz ?_;refine g (A7 U W v a Q) t _ _ M N om (fun q=>?_) (fun q=>?_)
 ·refine vd t _ M om (fun u X=>?_);rw[A6,q,Bool.false_or];have O:cC (eI t)<=n:=om;generalize eI t=b at X O H;have r:=gN b;cases X with
  |nil=>
   refine cl.loop ?_;refine cP.drop 7 ?_ ?_ ?_ ?_
   ·exact Z
   ·exact lg Z c e B
   ·exact Z
   exact cP.now Z ⟨Z,Z⟩
  |ps E=>
   rename_i ac o I K;have S:=E.len;refine cl.less (eW:=[(12,.d (.ps ac o 5 I K)),(13,b3 b.length),(14,b3 0),(2,.bp 6 0)]) ⟨Z,int_eq (by rw[S]),rfl,rfl,tv⟩ ?_;refine cl.iter (fun p:Nat=>[(12,.d (.ps ac o 5 I K)),(13,b3 b.length),(14,b3 p),(2,.bp 6 0)]) (fun p=>jc [b3 0] k h y++[.box (A7 U W v a Q),.box (A7 U W v a Q)]) (fun p=>b.length-p) (fun p=>p<=b.length/\∀x (F:x<b.length),x<p->vb b[x]=false) ?_ 0 ⟨YQ _,fun x _ E=>absurd E (YL _)⟩;rintro p ⟨af,G⟩;apply aZ<;>intro Y
   ·have l:p<b.length:=fF Y;obtain⟨u,hx,L⟩:=E.get l;refine b0 Z ?_;obtain⟨i,f,R,m,f2,rfl⟩:=L.di;refine b4 _ (by rw[cv];exact hx) ?_;have ae:=iC (YM l);refine(j b[p] _ om L (H _ (YM l))).pre [.box (A7 U W v a Q),.box (A7 U W v a Q),.box (A7 i f R m f2)] (lg Z c e B) Z (fun ah ad E=>?_);cases A:vb b[p]with
    |false=>
     rw[A]at E;obtain⟨rfl,rfl⟩:=E;refine⟨Z,lg Z c e B,Z,?_⟩;refine⟨p+1,⟨l,fun x F aa=>?_⟩,by show b.length-(p+1)<b.length-p;omega,.drop 9 ⟨rfl,rfl,int_eq (cp om),rfl,tv⟩ rfl rfl ?_ rfl rfl rfl rfl,rfl,rfl⟩
     ·rcases Nat.lt_or_ge x p with h1|h1
      ·exact G x F h1
      ·obtain rfl:x=p:=om;exact A
     ·exact T _ _ Z Z
    |true=>
     rw[A]at E;obtain⟨rfl,rfl⟩:=E;refine⟨Z,lg Z c e w,Z,?_⟩;refine cP.drop 7 ?_ ?_ ?_ ?_
     ·exact Z
     ·exact lg Z c e w
     ·exact Z
     refine cP.now Z ?_;rw[JD (YM l) A];exact⟨Z,Z⟩
   ·have l:b.length<=p:=dR Y;refine cP.drop 7 ?_ ?_ ?_ ?_
    ·exact Z
    ·exact lg Z c e B
    ·exact Z
    refine cP.now Z ?_;rw[yE.2 (fun t P=>by
     obtain⟨x,F,rfl⟩:=List.mem_iff_getElem.1 P;exact G x F om)]
    exact⟨Z,Z⟩
 ·refine cP.drop 7 ?_ ?_ ?_ ?_
  ·exact Z
  ·exact lg Z c e w
  ·exact Z
  refine cP.now Z ?_;rw[A6,q,YT];exact⟨Z,Z⟩
theorem So(b a:List V)(n k:jl)(q:e5 0 b=true)(s:e5 0 a=true)(y:fG 7 (.loop n)=true)(t:fG 7 (.loop k)=true)(p:∀e l,e5 0 e=true->e5 0 l=true->ln 9 (jc [b3 0] b a n++[.box e,.box l]) 9=true) 
  (A:∀(e:List V) (c:Ty) (h:List D) (v:dC->VS->Prop),gK c h->pg c->cJ c<4294967296->(pB c=false->v (.ret (ct true)) (jc [b3 0] b a n++[.box e,.box (h.map V.d)]))->(pB c=true->v (.ret (ct false)) (jc [b3 7] b a k++[.box e,.box (h.map V.d)]))->
   gT C b7 4 [.agg (h.map V.d)] (jc [b3 0] b a n++[.box e]) v):∀(o:Nat) (c:Ty) (h:List D),o<4294967296->cJ c<=o->gK c h->gu c->b1 C b7 eA [.agg (h.map V.d),.bp 5 0,.bp 6 0] (jc [b3 0] b a n) (Sn b a n k (vb c)):=by
 intro o;induction o with
 |zero=>intro c h _ G;have:=lY c;omega
 |succ o F=>intro c h E G u z;exact PH b a n k q s y t p A o (fun c h x w B=>F c h om x w B) c h G E u z
def La(a:jl):jl:={a with state:=.done,pending:=some .ret}
theorem PJ(b a:List V)(e:jl)(k:e5 0 b=true)(l:e5 0 a=true)(q:fG 7 (.loop e)=true)(o:fG 9 (.loop e)=true) 
  (w:∀(c:List V) (t:Ty) (h:List D) (v:dC->VS->Prop),gK t h->pg t->cJ t<4294967296->(pB t=false->v (.ret (ct true)) (jc [b3 0] b a e++[.box c,.box (h.map V.d)]))->(pB t=true->v (.ret (ct false)) (jc [b3 7] b a (La e)++[.box c,.box (h.map V.d)]))->
   gT C b7 4 [.agg (h.map V.d)] (jc [b3 0] b a e++[.box c]) v) (n:Nat) (t:Ty) (h:List D) (y:n<4294967296) (x:cJ t<=n) (s:gK t h) (u:gu t):b1 C b7 eA [.agg (h.map V.d),.bp 5 0,.bp 6 0] (jc [b3 0] b a e) (Sn b a e (La e) (vb t)):=
 So b a e (La e) k l q q (fun c p A z=>by
  simp only[jc,List.cons_append,List.nil_append,ln,fG,gl 9 b k,gl 9 a l,gl 9 c A,gl 9 p z,Bool.true_and,Bool.and_true]at o⊢;rw[o];rfl) w n t h y x s u
def qZ(t:Ty):Bool:=decide (4096<cJ t)||decide (32<pA t)||vb t
theorem y7(t:Ty)(x:List D)(b:gK t x)(p:gu t)(A:cJ t<4294967295):b1 C b7 nW [.agg (x.map V.d)] [] fun E n=>n=[]/\E=.ret (b3 (sP (qZ t))):=by
 obtain⟨w,z,o,a,v,rfl⟩:=b.di;refine cz ?_;refine lZ t _ b om ?_;apply aZ<;>intro e
 ·have l:=fF (a:=4096) e;repeat refine a8 e ?_
  refine a7 0 ⟨Z,?_⟩;rw[qZ,decide_eq_true l,YT,YT];rfl
 ·have l:=dR (a:=4096) e;repeat refine a6 e ?_
  refine JB _ t _ A (YO _) b ?_;repeat refine a6 e ?_
  apply aZ<;>intro h
  ·have k:=fF (a:=32) h;repeat refine a8 h ?_
   refine a7 0 ⟨Z,?_⟩;rw[qZ,decide_eq_true k,Bool.or_true,YT];rfl
  ·have k:=dR (a:=32) h;repeat refine a6 h ?_
   have q:qZ t=vb t:=by rw[qZ,decide_eq_false om,decide_eq_false om];rfl
   rw[q];refine b9 ?_;refine b9 ?_;refine(PJ (A7 w z o a v) (A7 w z o a v) _ Z Z ?_ ?_ (fun F t x G b p y u B=>?_) _ t _ om (YO _) b p).mono (fun E n s=>?_)
   ·exact Z
   ·exact Z
   ·obtain⟨w,z,o,a,v,rfl⟩:=b.di;refine gT.intro ?_;refine Cl t _ b p y ?_;cases c:pB t with
    |false=>exact u c
    |true=>exact B c
   ·cases c:vb t with
    |false=>
     rw[c]at s;obtain⟨rfl,rfl⟩:=s;exact a7 0 ⟨Z,Z⟩
    |true=>
     rw[c]at s;obtain⟨rfl,rfl⟩:=s;exact a7 0 ⟨Z,Z⟩
theorem oe(t:Ty)(h:List D)(a:gK t h)(b:gu t)(e:cJ t<4294967295)(c:d (.ret (b3 (sP (qZ t)))) j):b1 C b7 nW [.agg (h.map V.d)] j d:=by
 obtain⟨n,o,k,p,l,rfl⟩:=a.di;exact cQ (y7 t _ a b e) Z Z c
def Rd.Nm(b:Rd):Prop:=∀a,a<b.ts.length->((b.tok a).kind=1->cM (b.tok a).text=true)/\((b.tok a).kind=2->dB (b.tok a).text=true)
theorem qc{R:Rd}(c:gk g=.ok R.ts):R.Nm:=by
 obtain⟨_,_,_,_,b⟩:=wV c;intro k a;have:=bZ a;obtain⟨h,e,_⟩:=b _ (List.mem_of_getElem? this);exact⟨h,e⟩
def Good(e:Nat->PR Ty)(h:Rd)(lo:Nat):Prop:=∀a c b,lo<=a->a<h.ts.length->e a=.ok c b->gu c/\cJ c+a<=b/\a<b/\b<h.ts.length
theorem G6{l a:List Ty}(k:l.Perm a):cC l=cC a:=by
 induction k with
 |nil=>rfl
 |cons h _ b=>simp only[cC,b]
 |swap h n l=>simp only[cC];omega
 |trans _ _ e c=>rw[e,c]
variable{f:Nat->PR Ty} {i:Rd}
theorem Cm(B:i.Wf){lo:Nat}(v:Good f i lo):
  ∀(s:Nat) (a:List Ty) (e:Nat) (p:List Ty) (o:Nat),lo<=e->e<i.ts.length->(∀k∈a,gu k)->dE f i s a e=.ok p o->(∀k∈p,gu k)/\cC p+e<=cC a+o/\o<i.ts.length:=by
 intro s;induction s with
 |zero=>intro a e p o _ _ _ b;cases b
 |succ s z=>
  intro a e p o y x A b;rw[dE]at b;cases l:f e with
  |bad D J=>rw[l]at b;cases b
  |ok t n=>
   rw[l]at b;obtain⟨w,F,E,q⟩:=v e t n y x l;have h:∀k∈a++[t],gu k:=fun k hx=>by
    rcases YP.1 hx with hx|hx
    ·exact A k hx
    ·simp at hx;subst hx;exact w
   have G:cC (a++[t])=cC a+cJ t:=by rw[jC];simp[cC]
   dsimp only at b;split at b
   ·rename_i u;obtain⟨C,K,I⟩:=z _ _ _ _ om (B.step q u) h b;exact⟨C,om,I⟩
   ·cases c:cu i [[93]] n with
    |bad D J=>rw[c]at b;cases b
    |ok L H=>
     rw[c]at b;cases b;have:=cH _ _ _ c;exact⟨h,om,c8 B _ _ _ q c⟩
variable{m:Nat}
theorem vf(h:i.Wf){p:Nat}(e:Good f i p)(a:p<i.ts.length){l:List Ty}(b:hQ f i p=.ok l m):(∀k∈l,gu k)/\cC l+p<=m/\m<i.ts.length:=by
 rw[hQ]at b;split at b
 ·rename_i c;obtain⟨q,n,o⟩:=Cm h e _ _ _ _ _ om (h.step a c) sm b;simp only[cC]at n;exact⟨q,om,o⟩
 ·cases b;exact⟨by simp,by simp[cC],a⟩
structure Vn (vu:Bool) (l:List mT):Prop where
 name:∀x∈l,cM x.1=true
 all:∀x∈l,gu x.2.1
 vu:vu=false->∀x∈l,x.2.2=false
 nd:(l.map (·.1)).Nodup
variable{r:Bool}
theorem Vn.snoc{l:List mT}{n:List UInt8}{t:Ty}{o:Bool}(c:Vn r l)(p:cM n=true)(h:gu t)(q:r=false->o=false)(k:n ∉ l.map (·.1)):Vn r (l++[(n,t,o)]):=by
 refine⟨fun x hx=>?_,fun x hx=>?_,fun a x hx=>?_,?_⟩
 ·rcases YP.1 hx with hx|hx
  ·exact c.name x hx
  ·simp at hx;subst hx;exact p
 ·rcases YP.1 hx with hx|hx
  ·exact c.all x hx
  ·simp at hx;subst hx;exact h
 ·rcases YP.1 hx with hx|hx
  ·exact c.vu a x hx
  ·simp at hx;subst hx;exact q a
 ·rw[List.map_append,List.nodup_append];refine⟨c.nd,by simp,?_⟩;intro v e u b s;simp only[List.map_cons,YW,YX]at b;subst s;subst b;exact k e
theorem y8(B:i.Wf)(K:i.Nm){lo:Nat}(G:Good f i lo)(n s:List UInt8)(a:Bool):
  ∀(E:Nat) (b:List mT) (c:Nat) (C:List mT) (y:Nat),lo<=c->c<i.ts.length->Vn a b->cO f i n s a E b c=.ok C y->Vn a C/\cC (gn C)+c<=cC (gn b)+y/\y<i.ts.length:=by
 intro E;induction E with
 |zero=>intro b c C y _ _ _ e;cases e
 |succ E L=>
  intro b c C y W u M e;rw[cO]at e;split at e
  ·cases e
  ·rename_i p;have p:(i.tok c).kind=1:=by simpa using p
   have l:c+1<i.ts.length:=B.go c _ (bZ u) om;split at e
   ·cases e
   ·rename_i v;have x:(if a&&c0 (i.tok (c+1)) [63]then c+1+1 else c+1)<i.ts.length:=by
     split
     ·rename_i w;rw[YS]at w;exact B.step l w.2
     ·exact l
    have P:c+1<=(if a&&c0 (i.tok (c+1)) [63]then c+1+1 else c+1):=by split<;>omega
    cases k:cu i [[58]] (if a&&c0 (i.tok (c+1)) [63]then c+1+1 else c+1)with
    |bad N R=>rw[k]at e;cases e
    |ok Y A=>
     rw[k]at e;dsimp only at e;have z:=c8 B _ _ _ x k;have O:=cH _ _ _ k;cases q:f A with
     |bad N R=>rw[q]at e;cases e
     |ok F t=>
      rw[q]at e;dsimp only at e;obtain⟨H,V,T,D⟩:=G A F t om z q;have o:Vn a (b++[((i.tok c).text,F,a&&c0 (i.tok (c+1)) [63])]):=M.snoc ((K c u).1 p) H (fun I=>by rw[I];rfl) v;have X:cC (gn (b++[((i.tok c).text,F,a&&c0 (i.tok (c+1)) [63])]))=cC (gn b)+cJ F:=by
       simp only[gn,List.map_append,jC,List.map_cons,YW,cC,Nat.add_zero]
      split at e
      ·rename_i J;cases e;exact⟨o,om,B.step D J⟩
      ·cases h:cu i [n] t with
       |bad N R=>rw[h]at e;cases e
       |ok Y U=>
        rw[h]at e;have Q:=cH _ _ _ h;obtain⟨S,g,d⟩:=L _ _ _ _ om (c8 B _ _ _ D h) o e;exact⟨S,om,d⟩
theorem q0(y:i.Wf)(w:i.Nm){p:Nat}(t:Good f i p){b:List UInt8}(a:p<i.ts.length){l:List mT}(n:ey f i g b r p=.ok l m):
  WQ r l/\(∀e∈gn l,gu e)/\cC (gn l)+p<=m/\m<i.ts.length:=by
 rw[ey]at n;split at n
 ·rename_i s;cases n;exact⟨⟨by simp,List.Pairwise.nil,by simp⟩,by simp[gn],by simp[gn,cC],y.step a s⟩
 ·cases k:cO f i g b r i.ts.length [] p with
  |bad D E=>rw[k]at n;cases n
  |ok o C=>
   rw[k]at n;cases n;obtain⟨q,A,B⟩:=y8 y w t g b r _ _ _ _ _ (YO _) a ⟨by simp,by simp,by simp,by simp⟩ k;have a:=dG (key:=fun e:mT=>e.1) o;have h:(gn (cE (·.1) o)).Perm (gn o):=a.map _;refine⟨⟨fun e c=>q.name e (a.subset c),hL q.nd,fun u e c=>q.vu u e (a.subset c)⟩,fun e c=>?_,?_,B⟩
   ·obtain⟨z,v,rfl⟩:=List.mem_map.1 (h.subset c);exact q.all z v
   ·rw[G6 h];simp only[gn,YW,cC]at A⊢;omega
theorem MS(y:i.Wf)(A:i.Nm){L p s:Nat}{t:Ty}(l:Good f i p) 
  (e:m≠0->p<i.ts.length) (G:m=1->cM g=true) (N:m=2->dB g=true) (b:eR f i m g L p=.ok t s):gu t/\cJ t+p<=s+1/\p<=s/\s<i.ts.length:=by
 obtain⟨E,I⟩:=KY y (fun u t s z R S=>⟨(l u t s z R S).2.2.1,(l u t s z R S).2.2.2⟩) e b
 suffices gu t/\cJ t+p<=s+1 from⟨this.1,this.2,E,I⟩
 unfold eR at b;split at b
 ·have e:=e om;split at b
  ·rename_i Y h;cases b;refine⟨.mk (.base ?_) (by simp[eI,gn]),by simp[cJ,cC,qY];omega⟩;unfold sJ at h;split at h
   ·cases h;omega
   ·split at h
    ·cases h;omega
    ·split at h
     ·cases h;omega
     ·split at h
      ·cases h;omega
      ·split at h
       ·cases h;omega
       ·cases h
  ·split at b
   ·obtain⟨z,a,rfl⟩:=e6 b;rw[dv]at a;cases c:cu i [[91]] p with
    |bad K M=>rw[c]at a;cases a
    |ok P n=>
     rw[c]at a;dsimp only at a;have D:=cH _ _ _ c;have q:=c8 y _ _ _ e c;cases J:f n with
     |bad K M=>rw[J]at a;cases a
     |ok t B=>
      rw[J]at a;dsimp only at a;obtain⟨k,o,w,C⟩:=l n t B om q J;cases x:cu i [[93]] B with
      |bad K M=>rw[x]at a;cases a
      |ok P W=>
       rw[x]at a;cases a;have Q:=cH _ _ _ x;exact⟨.mk .list (by simp[eI,gn];exact k),by simp[cJ,cC,qY];omega⟩
   ·split at b
    ·cases c:cu i [[40]] p with
     |bad K M=>rw[c]at b;cases b
     |ok P n=>
      rw[c]at b;dsimp only at b;have D:=cH _ _ _ c;have q:=c8 y _ _ _ e c;cases H:ey f i [44] [41] true n with
      |bad K M=>rw[H]at b;cases b
      |ok d B=>
       rw[H]at b;dsimp only at b;obtain⟨k,o,w,C⟩:=q0 y A (fun u t s G=>l u t s om) q H;obtain⟨z,a,rfl⟩:=e6 b;obtain⟨O,T,X,V⟩:=l B z s om C a;refine⟨.mk (.func k) (fun U hx=>?_),?_⟩
       ·simp only[eI,YP,YX]at hx;rcases hx with rfl|hx
        ·exact O
        ·exact o U hx
       ·simp only[cJ,cC,qb];omega
    ·cases b
 ·split at b
  ·have e:=e om;split at b
   ·obtain⟨z,a,rfl⟩:=e6 b;obtain⟨k,o,w,C⟩:=q0 y A l e a;exact⟨.mk (.UI k) (by simpa [eI]using o),by simp only[cJ,cC,qb];omega⟩
   ·split at b
    ·obtain⟨z,a,rfl⟩:=e6 b;obtain⟨k,o,w,C⟩:=q0 y A l e a;exact⟨.mk (.XA k) (by simpa [eI]using o),by simp only[cJ,cC,qb];omega⟩
    ·cases b
  ·split at b
   ·rename_i F;obtain⟨z,a,rfl⟩:=e6 b;obtain⟨k,o,w⟩:=vf y l (e om) a;exact⟨.mk (.ref (.inl Z) (N F)) (by simpa [eI,gn]using k),by simp only[cJ,qY];omega⟩
   ·split at b
    ·rename_i F;have e:=e om;cases c:cu i [[58,58]] p with
     |bad K M=>rw[c]at b;cases b
     |ok P n=>
      rw[c]at b;dsimp only at b;have D:=cH _ _ _ c;have q:=c8 y _ _ _ e c;split at b
      ·cases b
      ·rename_i v;have v:(i.tok n).kind=2:=by simpa using v
       obtain⟨z,a,rfl⟩:=e6 b;obtain⟨k,o,w⟩:=vf y (fun u t s G=>l u t s om) (y.go n _ (bZ q) om) a;exact⟨.mk (.ref (.inr (G F)) ((A n q).2 v)) (by simpa [eI,gn]using k),by simp only[cJ,qY];omega⟩
    ·cases b
theorem qd(t:i.Wf)(b:i.Nm):∀(e:Nat),Good (de i e) i 0:=by
 intro e;induction e with
 |zero=>intro c p l _ _ h;cases h
 |succ e o=>
  intro c p l _ a h;rw[de]at h;obtain⟨v,w,x,u⟩:=MS t b (p:=c+1) (fun q p l _ s k=>o q p l (YQ _) s k) (fun n=>t.go c _ (bZ a) n) (b c a).1 (b c a).2 h;exact⟨v,om,om,u⟩
theorem PK(c:UInt8)(b:d (.ret (ct (wT c))) j):b1 C b7 rz [gq c] j d:=by
 refine b9 ?_;refine qJ c ?_;apply aZ<;>intro a
 ·exact a8 a (a8 a (db (by simp only[wT,a,YT]) b))
 ·refine a6 a (n1 c ?_);exact a6 a (db (by simp only[wT,a,Bool.false_or]) b)
theorem vg{b:Bool}(a:(!b)=true):b=false:=by cases b with
 |true=>cases a
 |false=>rfl
theorem vh{b:Bool}(a:(!b)=false):b=true:=by cases b with
 |false=>cases a
 |true=>rfl
theorem UJ:AE rz wT:=⟨rfl,fun a=>PK a⟩
theorem Sp(a:List UInt8)(b:d (.ret (.dV [cq a,ct true])) j):b1 C b7 mS [cq (118::a),cq [118]] j d:=by
 refine b9 ?_;refine b9 ?_;refine mD (118::a) [118] ?_;refine b0 Z ?_;refine a1 ⟨by show 1<=_;simp,YO _⟩ ?_;show d (.ret (.dV [V.d (.str (List.drop 1 (List.take (118::a).length (118::a)))),ct true])) j;rw[List.take_length];exact b
theorem PL(a:List UInt8)(c:c3 a [118]=false)(b:d (.ret (.dV [cq a,ct false])) j):b1 C b7 mS [cq a,cq [118]] j d:=by
 refine b9 ?_;refine b9 ?_;refine mD a [118] ?_;refine a8 (by rw[c];rfl) ?_;exact b
theorem Cn(s:List UInt8)(H:s.length<4294967296):b1 C b7 ry [cq s] [] fun h E=>E=[]/\cN h=true/\∃G,h=.ret (.dV [.d (.int .i64 G),ct (uy s)]):=by
 refine cz ?_;cases s with
 |nil=>
  refine PL [] Z ?_;refine a7 0 ⟨Z,Z,_,Z⟩
 |cons F h=>
  by_cases x:F=118
  ·subst x;have I:h.length<4294967295:=by simp only[YR]at H;omega
   refine Sp h ?_;have n:uy (118::h)=(!decide (h=[])&&(decide (h.length<=3)&&(!(decide (1<h.length)&&decide (YV (h.headD 0).toNat=48))&&h.all isDigit))):=by rw[uy];rfl
   apply aZ<;>intro v
   ·have e:h=[]:=of_decide_eq_true v;repeat refine a8 v ?_
    refine a7 0 ⟨Z,Z,_,by rw[n,e];rfl⟩
   ·have e:h≠[]:=of_decide_eq_false v;repeat refine a6 v ?_
    apply aZ<;>intro z
    ·have t:3<h.length:=fF (a:=3) z;repeat refine dX ?_
     refine a7 0 ⟨Z,Z,_,by rw[n,decide_eq_false e,decide_eq_false (p:=h.length<=3) om];rfl⟩
    ·have t:h.length<=3:=dR (a:=3) z;repeat refine dX ?_
     obtain⟨b,a,rfl⟩:∃b a,h=b::a:=by cases h with
      |nil=>exact absurd rfl e
      |cons b a=>exact⟨b,a,rfl⟩
     apply aZ<;>intro B
     ·have D:1<(b::a).length:=fF (a:=1) B;repeat refine dX ?_
      refine b0 Z (b4 b Z ?_);repeat refine dX ?_
      apply aZ<;>intro A
      ·repeat refine dX ?_
       refine a7 0 ⟨Z,Z,_,by rw[n,decide_eq_true D,show decide (YV ((b::a).headD 0).toNat=48)=true from A];simp;rfl⟩
      ·have y:(decide (1<(b::a).length)&&decide (YV ((b::a).headD 0).toNat=48))=false:=by rw[show decide (YV ((b::a).headD 0).toNat=48)=false from A,Bool.and_false]
       repeat refine dX ?_
       refine sA AF (b::a) om ?_;repeat refine dX ?_
       apply aZ<;>intro p
       ·have c:(b::a).all isDigit=false:=vg p;repeat refine dX ?_
        refine a7 0 ⟨Z,Z,_,by rw[n,c];simp;rfl⟩
       ·have c:(b::a).all isDigit=true:=vh p;repeat refine dX ?_
        have q:uy (118::b::a)=true:=by rw[n,c,y,decide_eq_false e,decide_eq_true t];rfl
        rw[q];refine cl.less (eW:=[(0,cq (b::a)),(5,.d (.int .i64 0)),(39,b3 (b::a).length),(40,b3 0)]) ⟨Z,Z,Z,Z,tv⟩ ?_;refine cl.iter (fun k:Nat×Int=>[(0,cq (b::a)),(5,.d (.int .i64 k.2)),(39,b3 (b::a).length),(40,b3 k.1)]) (fun _=>[]) (fun k=>(b::a).length-k.1) (fun k=>k.1<=(b::a).length) ?_ (0,0) (YQ _);rintro⟨o,G⟩ u;have u:o<=(b::a).length:=u;apply aZ<;>intro w
        ·have l:o<(b::a).length:=fF w;refine b0 Z (b4 (b::a)[o] (by rw[cv];exact YN l) ?_);exact⟨(o+1,_),l,by show(b::a).length-(o+1)<(b::a).length-o;omega,.same ⟨rfl,rfl,rfl,int_eq (cp om),tv⟩ rfl,rfl,rfl⟩
        ·refine a7 0 ⟨Z,Z,_,Z⟩
     ·have y:(decide (1<(b::a).length)&&decide (YV ((b::a).headD 0).toNat=48))=false:=by rw[decide_eq_false (YU.2 (dR (a:=1) B)),Bool.false_and]
      repeat refine dX ?_
      refine sA AF (b::a) om ?_;repeat refine dX ?_
      apply aZ<;>intro p
      ·have c:(b::a).all isDigit=false:=vg p;repeat refine dX ?_
       refine a7 0 ⟨Z,Z,_,by rw[n,c];simp;rfl⟩
      ·have c:(b::a).all isDigit=true:=vh p;repeat refine dX ?_
       have q:uy (118::b::a)=true:=by rw[n,c,y,decide_eq_false e,decide_eq_true t];rfl
       rw[q];refine cl.less (eW:=[(0,cq (b::a)),(5,.d (.int .i64 0)),(39,b3 (b::a).length),(40,b3 0)]) ⟨Z,Z,Z,Z,tv⟩ ?_;refine cl.iter (fun k:Nat×Int=>[(0,cq (b::a)),(5,.d (.int .i64 k.2)),(39,b3 (b::a).length),(40,b3 k.1)]) (fun _=>[]) (fun k=>(b::a).length-k.1) (fun k=>k.1<=(b::a).length) ?_ (0,0) (YQ _);rintro⟨o,G⟩ u;have u:o<=(b::a).length:=u;apply aZ<;>intro w
       ·have l:o<(b::a).length:=fF w;refine b0 Z (b4 (b::a)[o] (by rw[cv];exact YN l) ?_);exact⟨(o+1,_),l,by show(b::a).length-(o+1)<(b::a).length-o;omega,.same ⟨rfl,rfl,rfl,int_eq (cp om),tv⟩ rfl,rfl,rfl⟩
       ·refine a7 0 ⟨Z,Z,_,Z⟩
  ·refine PL (F::h) (by show(decide ((118:UInt8)=F)&&true)=false;rw[decide_eq_false fun J=>x J.symm];rfl) ?_;refine a7 0 ⟨Z,Z,_,by rw[uy,decide_eq_false x];rfl⟩
theorem ES(b:List UInt8)(e:b.length<4294967296)(c:∀a,d (.ret (.dV [.d (.int .i64 a),ct (uy b)])) j):b1 C b7 ry [cq b] j d:=
 b1.closed (P:=fun h=>∃a,h=.ret (.dV [.d (.int .i64 a),ct (uy b)])) (Cn b e) rfl (fun h ⟨a,k⟩=>by rw[k];exact c a)
theorem JE(b:List UInt8)(h:b.length<4294967296)(e:∀c a,d (.ret (.d (.ps c 0 1 a (eQ (dL b))))) j):b1 C b7 rv [cq b,cq [47]] j d:=
 b1.closed (P:=fun k=>∃c a,k=.ret (.d (.ps c 0 1 a (eQ (dL b))))) (G2 b h) rfl (fun k ⟨c,l,n⟩=>by rw[n];exact e c l)
theorem ET(s:List UInt8):∀b∈dL s,b.length<=s.length:=by
 induction s with
 |nil=>intro b h;simp[dL]at h;subst h;exact YO _
 |cons l e a=>
  intro b h;rw[dL]at h;split at h
  ·rcases List.mem_cons.1 h with rfl|h
   ·exact YQ _
   ·exact Nat.le_succ_of_le (a b h)
  ·cases c:dL e with
   |nil=>exact absurd c (p9 e)
   |cons k n=>
    rw[c]at h a;rcases List.mem_cons.1 h with rfl|h
    ·exact Nat.succ_le_succ (a k sm)
    ·exact Nat.le_succ_of_le (a b (by simp[h]))
theorem EU(e:List UInt8)(M:e.length<4294967296):b1 C b7 sq [cq e] [] fun Q N=>N=[]/\cN Q=true/\Q=.ret (ct (gB e)):=by
 refine cz ?_;refine b9 ?_;refine JE e M (fun P x=>?_);obtain⟨a,l⟩:∃a,a=dL e:=⟨_,rfl⟩;have F:a≠[]:=l▸p9 e;have A:∀k∈a,k.length<=e.length:=l▸ET e;have s:gB e=(uy (a.getLastD [])&&(decide (e.length<=64)&&(decide (2<=a.length)&&a.all fun k=>cM k&&k.all wT))):=by rw[gB,<-l]
 rw[<-l];have B:0<a.length:=List.length_pos_iff.2 F;have p:(eQ a).length=a.length:=by simp[eQ]
 have u:∀b (h:b<a.length),nth (eQ a) b=some [D.str a[b]]:=fun b h=>by rw[cv,eQ,List.getElem?_map,YN h];rfl
 have R:a.length<=e.length+1:=by
  have W:countB 47 e<=e.length:=by
   clear M A s l;induction e with
   |nil=>exact YO _
   |cons Y Q V=>
    rw[countB];split<;>simp only[YR]<;>omega
  rw[l,A2];omega
 have v:a.getLastD []=a[a.length-1]:=by rw[List.getLastD_eq_getLast?,List.getLast?_eq_getElem?,YN om];rfl
 have o:∀b (h:b<a.length),a[b].length<4294967296:=fun b h=>by have:=A _ (YM h);omega
 refine b0 (m:=a.length-1) (by rw[p];exact G0 B om) ?_;refine b4 [.str (a[a.length-1])] (u _ om) ?_;refine ES _ (o _ om) (fun k=>?_);rw[<-v];apply aZ<;>intro I
 ·have t:=vg I;repeat refine dX ?_
  refine a7 0 ⟨Z,Z,by rw[s,t];rfl⟩
 ·have t:=vh I;repeat refine dX ?_
  apply aZ<;>intro G
  ·have y:64<e.length:=fF (a:=64) G;repeat refine dX ?_
   refine a7 0 ⟨Z,Z,by rw[s,decide_eq_false (p:=e.length<=64) om,Bool.false_and,Bool.and_false];rfl⟩
  ·have y:e.length<=64:=dR (a:=64) G;repeat refine dX ?_
   apply aZ<;>intro L
   ·have z:a.length<2:=by have:=fF (b:=2) L;omega
    refine a7 0 ⟨Z,Z,by rw[s,decide_eq_false (p:=2<=a.length) om];simp;rfl⟩
   ·have z:2<=a.length:=by have:=dR (b:=2) L;omega
    have w:gB e=a.all fun k=>cM k&&k.all wT:=by rw[s,t,decide_eq_true y,decide_eq_true z];rfl
    refine cl.less (eW:=[(5,.d (.int .i64 k)),(33,.d (.ps P 0 1 x (eQ a))),(34,b3 a.length),(35,b3 0)]) ⟨Z,Z,int_eq (by rw[p]),rfl,tv⟩ ?_;refine cl.iter (fun b:Nat=>[(5,.d (.int .i64 k)),(33,.d (.ps P 0 1 x (eQ a))),(34,b3 a.length),(35,b3 b)]) (fun _=>[]) (fun b=>a.length-b) (fun b=>b<=a.length/\(a.take b).all (fun k=>cM k&&k.all wT)=true) ?_ 0 ⟨YQ _,Z⟩;rintro b ⟨U,E⟩;apply aZ<;>intro H
    ·have c:b<a.length:=fF H;have K:cM a[b]=false∨a[b].all wT=false->gB e=false:=fun h=>by
      rw[w,List.all_eq_false];exact⟨a[b],YM c,by rcases h with h|h<;>simp[h]⟩
     refine b0 Z ?_;refine b4 [.str a[b]] (u b c) ?_;refine fV _ (o b c) ?_;apply aZ<;>intro J
     ·have n:=vg J;repeat refine dX ?_
      refine a7 0 ⟨Z,Z,by rw[K (.inl n)];rfl⟩
     ·have n:=vh J;repeat refine dX ?_
      refine sA UJ _ (o b c) ?_;repeat refine dX ?_
      apply aZ<;>intro O
      ·have q:=vg O;repeat refine dX ?_
       refine a7 0 ⟨Z,Z,by rw[K (.inr q)];rfl⟩
      ·have q:=vh O;repeat refine dX ?_
       refine⟨b+1,⟨c,?_⟩,by show a.length-(b+1)<a.length-b;omega,.same ⟨rfl,rfl,rfl,int_eq (cp om),tv⟩ rfl,rfl,rfl⟩;rw[List.take_add_one,YN c];simp only[List.all_append,E,Option.toList,List.all_cons,List.all_nil,n,q,Bool.and_true]
    ·have c:a.length<=b:=dR H;rw[List.take_of_length_le c]at E;refine a7 0 ⟨Z,Z,by rw[w,E];rfl⟩
theorem gE(a:List UInt8)(c:a.length<4294967296)(b:d (.ret (ct (gB a))) j):b1 C b7 sq [cq a] j d:=
 b1.closed (P:=fun e=>e=.ret (ct (gB a))) (EU a c) rfl (fun e h=>by rw[h];exact b)
structure V0 (g:FuncId) (fn:Nat->PR (List UInt8)) (R:Rd):Prop where
 lt:∀p s q,p<R.ts.length->fn p=.ok s q->p<q/\q<R.ts.length
 call:∀p,p<R.ts.length->∀(i:Nat) {σ:VS} {K:dC->VS->Prop},nth σ i=some (dq R p)->(∀s q,fn p=.ok s q->K (.ret (cq s)) (σ.set i (dq R q)))->(∀off e q,fn p=.bad off e->K (.eE (dt off e)) (σ.set i (dq R q)))->b1 C b7 g [.bp i 0] σ K
theorem iM(l:i.Wf){h p c:Nat}{s:List UInt8}(k:h≠0)(e:p<i.ts.length)(b:hS h i p=.ok s c):p<c/\c<i.ts.length:=by
 rw[hS]at b;split at b
 ·cases b
 ·rename_i a;have a:(i.tok p).kind=h:=by simpa using a
  cases b;exact⟨om,l.go p _ (bZ e) om⟩
theorem l0(v:i.Wf){k:Nat}(u:k≠0){p:Nat}(n:p<i.ts.length)(c:Nat)(b:nth j c=some (dq i p))(l:∀s e,hS k i p=.ok s e->d (.ret (cq s)) (j.set c (dq i e)))(o:∀a h e,hS k i p=.bad a h->d (.eE (dt a h)) (j.set c (dq i e))):
  b1 C b7 sn [.bp c 0,b3 k] j d:=by
 have q:=v.len;refine n8 i p k _ (bZ n) om c b (fun t=>?_) (fun t=>?_)
 ·have h:dW (i.tok p) p=p+1:=by rw[dW,if_neg om]
  rw[h];exact l _ _ (by rw[hS,if_neg om])
 ·exact o _ _ _ (by rw[hS,if_pos t])
theorem nB(t:i.Wf){p:Nat}(k:p<i.ts.length)(c:Nat)(b:nth j c=some (dq i p))(h:∀o e,c9 i p=.ok o e->d (.ret (cq o)) (j.set c (dq i e)))(l:∀a s e,c9 i p=.bad a s->d (.eE (dt a s)) (j.set c (dq i e))):
  b1 C b7 ur [.bp c 0] j d:=by
 have n:=t.len;refine jR i p _ (bZ k) om c b (fun q=>?_) (fun q=>?_)
 ·exact h _ _ (by rw[c9,if_neg om])
 ·exact l _ _ _ (by rw[c9,if_pos q])
theorem sQ(t:i.Wf):V0 yX (gb i) i:=by
 have w:=t.len;refine⟨fun u s h q k=>?_,fun u l v x y c o p=>?_⟩
 ·rw[gb]at k;split at k
  ·exact iM t dc q k
  ·exact fB t q k
 ·refine b9 ?_;refine ei i u _ (bZ l) v c ?_;apply aZ<;>intro k
  ·have b:(i.tok u).kind=2:=CM k;refine l0 t dc l v c (fun s h e=>?_) (fun a n h e=>?_)
   ·exact o s h (by rw[gb,if_pos b,e])
   ·exact p a n h (by rw[gb,if_pos b,e])
  ·have b:(i.tok u).kind≠2:=fun e=>by rw[e]at k;cases k
   refine nB t l v c (fun s h e=>?_) (fun a n h e=>?_)
   ·exact o s h (by rw[gb,if_neg b,e])
   ·exact p a n h (by rw[gb,if_neg b,e])
theorem PM(p:i.Wf):∀(h:Nat) (s:List UInt8) (e:Nat) (l:List UInt8) (b:Nat),e<i.ts.length->kI i h s e=.ok l b->e<=b/\b<i.ts.length:=by
 intro h;induction h with
 |zero=>intro s e l b _ a;cases a
 |succ h k=>
  intro s e l b c a;rw[kI]at a;split at a
  ·rename_i n;split at a
   ·cases a
   ·rename_i v u o;obtain⟨x,t⟩:=fB p (p.step c n) o;obtain⟨w,q⟩:=k _ _ _ _ t a;exact⟨om,q⟩
  ·cases a;exact⟨YO _,c⟩
theorem PN(k:i.Wf){p b:Nat}{s:List UInt8}(e:p<i.ts.length)(a:fT i p=.ok s b):p<b/\b<i.ts.length:=by
 rw[fT]at a;split at a
 ·cases a
 ·rename_i t o h;obtain⟨v,n⟩:=fB k e h;split at a
  ·cases a
  ·rename_i w q c;obtain⟨u,l⟩:=PM k _ _ _ _ _ n c;split at a
   ·cases a;exact⟨om,l⟩
   ·cases a
def Tq(h:Rd)(k:PR (List UInt8))(c:dC)(b:List V):Prop:=match k with
 |.ok l q=>b=ub h q/\c=.ret (cq l)
 |.bad a e=>∃q,b=ub h q/\c=.eE (dt a e)
theorem V0.of{v:FuncId}{fn:Nat->PR (List UInt8)}(h:∀b x c,b<i.ts.length->fn b=.ok x c->b<c/\c<i.ts.length)(e:∀b,b<i.ts.length->b1 C b7 v [.bp 0 0] [dq i b] fun p l=>∃a,l=[.box a]/\cN p=true/\e5 0 a=true/\Tq i (fn b) p a):V0 v fn i:=by
 refine⟨h,fun b s z w A n o t=>?_⟩;refine b1.one (dN:=[.bp 0 0]) (P:=Tq i (fn b)) (e b s) z n Z Z Z (fun p a e=>?_);unfold Tq at e;split at e
 ·rename_i y c u;obtain⟨rfl,rfl⟩:=e;exact o y c u
 ·rename_i k q u;obtain⟨c,rfl,rfl⟩:=e;exact t k q c u
theorem Rd.Nm.short(k:i.Nm){p h:Nat}{s:List UInt8}(e:p<i.ts.length)(c:c9 i p=.ok s h):s.length<=32/\h=p+1:=by
 rw[c9]at c;split at c
 ·cases c
 ·rename_i a;have a:(i.tok p).kind=1:=by simpa using a
  have b:=(k p e).1 a;cases c;simp only[cM,YS,decide_eq_true_eq]at b;exact⟨b.1.1.1.2,Z⟩
theorem vj(x:i.Wf)(u:i.Nm)(P:i.ts.length<=65537):V0 B7 (fT i) i:=by
 have L:=x.len;refine V0.of (fun w h o K y=>PN x K y) (fun w t=>?_);refine b9 ?_;refine ei i w _ (bZ t) 0 Z ?_;refine nB x t 0 Z (fun c b v=>?_) (fun E J o N=>?_)
 ·obtain⟨_,B⟩:=fB x t v;obtain⟨O,U⟩:=u.short t v;refine cl.less (eW:=[(0,.bp 0 0),(3,b3 (i.tok w).off),(4,cq c)]) ⟨Z,Z,Z,tv⟩ ?_;refine cl.iter (fun e:Nat×List UInt8=>[(0,.bp 0 0),(3,b3 (i.tok w).off),(4,cq e.2)]) (fun e=>[dq i e.1]) (fun e=>i.ts.length-e.1)
   (fun e=>e.1<i.ts.length/\e.2.length<=33*e.1/\∃s,i.ts.length-e.1<=s/\kI i i.ts.length c b=kI i s e.2 e.1) ?_ (b,c) ⟨B,by show c.length<=33*b;omega,_,by show i.ts.length-b<=i.ts.length;omega,rfl⟩
  rintro⟨o,h⟩ ⟨D,z,s,H,C⟩;have A:o<i.ts.length:=D;have T:h.length<=33*o:=z;have S:i.ts.length-o<=s:=H;have a:kI i i.ts.length c b=kI i s h o:=C;clear D z H C;obtain⟨s,rfl⟩:∃M,s=M+1:=⟨s-1,om⟩;rw[kI]at a;have p:fT i w=match kI i i.ts.length c b with
    |.bad R N=>.bad R N
    |.ok h o=>if gB h then .ok h o else .bad (i.tok w).off 4:=by rw[fT,v];rfl
  refine cG i o (i.tok o) [47] (bZ A) om 0 Z (fun y=>?_) (fun y=>?_)
  ·have k:=x.step A y;rw[if_pos y]at a;refine nB x k 0 Z (fun I q l=>?_) (fun E J q l=>?_)
   ·obtain⟨_,G⟩:=fB x k l;obtain⟨Q,V⟩:=u.short k l;rw[l]at a;refine a1 ?_ ?_
    ·show 1+I.length<=_;omega
    refine a1 ?_ ?_
    ·show h.length+(47::I).length<=_;simp only[YR];omega
    refine⟨(q,h++47::I),⟨G,by show(h++47::I).length<=33*q;simp only[List.length_append,YR];omega,s,by show i.ts.length-q<=s;omega,a⟩,by show i.ts.length-q<i.ts.length-o;omega,.same ⟨rfl,rfl,rfl,tv⟩ rfl,rfl,rfl⟩
   ·rw[l]at a;rw[a]at p;exact⟨_,Z,Z,Z,by rw[p];exact⟨_,rfl,rfl⟩⟩
  ·rw[if_neg (by rw[y];decide)]at a;rw[a]at p;refine gE h om ?_;apply aZ<;>intro F
   ·have n:gB h=false:=by simpa using F
    refine eO _ (i.tok w).off 4 ?_;exact⟨_,Z,Z,Z,by rw[p];dsimp only;rw[if_neg (by rw[n];decide)];exact⟨_,rfl,rfl⟩⟩
   ·have n:gB h=true:=by simpa using F
    exact⟨_,Z,Z,Z,by rw[p];dsimp only;rw[if_pos n];exact⟨rfl,rfl⟩⟩
 ·exact⟨_,Z,Z,Z,by rw[fT,N];exact⟨_,rfl,rfl⟩⟩
end Go.Proofs.YtpejealjkmhkgaaGreatDoor
