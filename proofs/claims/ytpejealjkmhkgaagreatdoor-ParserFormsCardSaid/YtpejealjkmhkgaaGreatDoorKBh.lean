/- Part of the proof. -/
import Derived.Test.YtpejealjkmhkgaaGreatDoorKBg
set_option linter.all false
set_option maxHeartbeats 16000000
set_option maxRecDepth 100000
open List renaming getElem_mem->abK,mem_append->aet,getElem?_eq_getElem->aeu,length_cons->aeO,map_nil->aeS,mem_singleton->aeT
open Nat renaming le_refl->abL,not_lt_zero->aeM,zero_le->aeP,ble_eq->aeR
open Bool renaming and_eq_true->aev,true_or->aeN
open Int renaming ofNat->aeQ
namespace Go.Proofs.YtpejealjkmhkgaaGreatDoor
open Go.AM Go.VM
theorem lS(t:Ty)(e:cH)(a:eZ t e)(b:ol t)(d:ct t<4294967296){σ:VS}{K:cO->VS->Prop}(c:K (.ret (bX true)) σ):bV C ca tu [.agg (e.map V.d)] σ K:=by
 obtain⟨j,k,h,l,i,rfl⟩:=a.cZ;exact cC (HG t _ a b d) Z Z c
theorem lZ{s:cq}(a:cK s=true):s.length<4294967296:=by
 simp only[cK,aev,decide_eq_true_eq]at a;omega
theorem oo{s:cq}(a:dX s=true):s.length<4294967296:=by
 simp only[dX,aev,decide_eq_true_eq]at a;omega
theorem jf(s:cq)(h:s=[]∨cK s=true){σ:VS}{K:cO->VS->Prop}(b:K (.ret (bX true)) σ):bV C ca BA [cn s] σ K:=by
 refine cj ?_;rcases h with rfl|h
 ·exact b
 ·have a:s≠[]:=fun c=>by subst c;cases h
  refine a7 (decide_eq_false a) ?_;repeat refine a7 (decide_eq_false a) ?_
  refine ic s (lZ h) ?_;rw[h];repeat refine a7 (decide_eq_false a) ?_
  exact b
def si(b:Bool):Nat:=if b then 7 else 0
theorem Dy(t:Ty)(s:cH)(i:eZ t s)(n:ol t)(d:ct t<4294967296):bV C ca qM [.agg (s.map V.d)] [] fun z r=>r=[]/\z=.ret (bW (si (lm t))):=by
 refine cm ?_;have c:=n;cases n with
 |base hk=>
  rename_i p;cases i with
  |mk b hf=>
   refine lS _ _ (eZ.mk b hf) c d ?_;obtain rfl:=b.cS;have o:p=0∨p=1∨p=2∨p=3∨p=4:=om;rcases o with rfl|rfl|rfl|rfl|rfl
   ·exact Ip
   ·exact Ip
   ·exact Ip
   ·exact Ip
   ·exact Ip
 |list=>
  cases i with
  |mk b hf=>
   refine lS _ _ (eZ.mk b hf) c d ?_;obtain⟨A,B,q,s,rfl⟩:=b.nN;exact Ip
 |Rz h=>
  cases i with
  |mk b hf=>
   refine lS _ _ (eZ.mk b hf) c d ?_;obtain rfl:=b.cS;have l:=(sV d).1;cases hf with
   |nil=>
    exact RP
   |ps hf=>
    exact Sd
 |vrt h=>
  cases i with
  |mk b hf=>
   refine lS _ _ (eZ.mk b hf) c d ?_;obtain rfl:=b.cS;have l:=(sV d).1;cases hf with
   |nil=>
    exact RP
   |ps hf=>
    exact Sd
 |func h=>
  cases i with
  |mk b hf=>
   refine lS _ _ (eZ.mk b hf) c d ?_;obtain⟨A,B,q,s,rfl⟩:=b.nN;have l:=(sV d).1;cases hf with
   |nil=>
    exact RP
   |ps hf=>
    exact Sd
 |ref k e=>
  cases i with
  |mk b hf=>
   refine lS _ _ (eZ.mk b hf) c d ?_;cases b with
   |nil=>
    rcases hf.cS with rfl|⟨b2,o2,abJ,rfl⟩
    ·refine jf _ k ?_;refine ie _ (oo e) ?_;rw[e];exact RP
    ·refine jf _ k ?_;refine ie _ (oo e) ?_;rw[e];refine gI Z _ _ (ll.ps .nil) dc (fun x j hj=>absurd hj (aeM _)) ?_;refine iy _ _ (ll.ps .nil) dc List.Pairwise.nil ?_;exact a8 0 ⟨Z,Z⟩
   |ps b w=>
    have hal:=b.len;rcases hf.cS with rfl|⟨b2,o2,abJ,rfl⟩
    ·apply aZ<;>intro hc
     ·exact abS
     ·have h8:=dq (a:=8) hc;rw[hal]at h8;repeat refine a7 hc ?_
      refine jf _ k ?_;refine ie _ (oo e) ?_;rw[e];refine gI Z _ _ ll.nil dc (fun x j hj=>absurd hj (aeM _)) ?_;refine iy _ _ ll.nil dc List.Pairwise.nil ?_;exact a8 0 ⟨Z,by simp[lm,Nat.not_lt.2 h8,si];rfl⟩
    ·apply aZ<;>intro hc
     ·exact abS
     ·have h8:=dq (a:=8) hc;rw[hal]at h8;repeat refine a7 hc ?_
      refine jf _ k ?_;refine ie _ (oo e) ?_;rw[e];refine gI Z _ _ (ll.ps .nil) dc (fun x j hj=>absurd hj (aeM _)) ?_;refine iy _ _ (ll.ps .nil) dc List.Pairwise.nil ?_;exact a8 0 ⟨Z,by simp[lm,Nat.not_lt.2 h8,si];rfl⟩
theorem EU(t:Ty)(e:cH)(a:eZ t e)(b:ol t)(d:ct t<4294967296){σ:VS}{K:cO->VS->Prop}(c:K (.ret (bW (si (lm t)))) σ):bV C ca qM [.agg (e.map V.d)] σ K:=by
 obtain⟨j,k,h,l,i,rfl⟩:=a.cZ;exact cC (Dy t _ a b d) Z Z c
inductive ft:Ty->Prop
 |mk {t:Ty} (h:ol t) (hp:∀p∈dD t,ft p):ft t
theorem vd{l:List Ty}:oW l=false↔∀b∈l,ru b=false:=by
 induction l with
 |nil=>simp[oW]
 |cons c l a=>simp[oW,a]
theorem Dz{l:List Ty}{t:Ty}(c:t∈l)(a:ru t=true):oW l=true:=by
 cases b:oW l with
 |true=>rfl
 |false=>rw[vd.1 b t c]at a;cases a
def WJ(d c:List V)(i e:ki)(b:Bool)(h:cO)(a:VS):Prop:=match b with
 |true=>a=j0 [bW 7] d c e/\h=.ret (bX false)
 |false=>a=j0 [bW 0] d c i/\h=.ret (bX true)
theorem TV(c b:List V)(p q:ki)(Rx:fu 0 c=true)(Io:fu 0 b=true)(hL:fW 7 (.loop p)=true)(l:fW 7 (.loop q)=true)(N:∀i B,fu 0 i=true->fu 0 B=true->mJ 9 (j0 [bW 0] c b p++[.box i,.box B]) 9=true) 
  (U:∀(i:List V) (t:Ty) (j:cH) (S:cO->VS->Prop),eZ t j->ol t->ct t<4294967296->(lm t=false->S (.ret (bX true)) (j0 [bW 0] c b p++[.box i,.box (j.map V.d)]))->(lm t=true->S (.ret (bX false)) (j0 [bW 7] c b q++[.box i,.box (j.map V.d)]))->
   iA C ca 4 [.agg (j.map V.d)] (j0 [bW 0] c b p++[.box i]) S) (n:Nat)
  (Y:∀(t:Ty) (j:cH),ct t<=n->eZ t j->ft t->bV C ca ez [.agg (j.map V.d),.bp 5 0,.bp 6 0] (j0 [bW 0] c b p) (WJ c b p q (ru t)))
  (t:Ty) (j:cH) (J:ct t<=n+1) (ad:n+1<4294967296) (F:eZ t j) (G:ft t):
  bV C ca ez [.agg (j.map V.d),.bp 5 0,.bp 6 0] (j0 [bW 0] c b p) (WJ c b p q (ru t)):=by
 obtain⟨O,P,k,I,K,rfl⟩:=F.cZ;have v:=eO t;cases G with
 |mk G z=>
 refine cm ?_;refine U (qk O P k I K) t _ _ F G om (fun e=>?_) (fun e=>?_)
 ·refine xM t _ F om (fun j Q=>?_);rw[xK,e,Bool.false_or];have H:cy (dD t)<=n:=om;generalize dD t=a at Q H z;have g:=dA a;cases Q with
  |nil=>
   exact aag
  |ps s=>
   rename_i y m A D;have M:=s.len;refine cd.less (dB:=[(12,.d (.ps y m 5 A D)),(13,bW a.length),(14,bW 0),(2,.bp 6 0)]) ⟨Z,int_eq (by rw[M]),Z,Z,tv⟩ ?_;refine cd.iter (fun h:Nat=>[(12,.d (.ps y m 5 A D)),(13,bW a.length),(14,bW h),(2,.bp 6 0)]) (fun h=>j0 [bW 0] c b p++[.box (qk O P k I K),.box (qk O P k I K)]) (fun h=>a.length-h) (fun h=>h<=a.length/\∀o (w:o<a.length),o<h->ru a[o]=false) ?_ 0 ⟨aeP _,fun o _ s=>absurd s (aeM _)⟩;rintro h ⟨ac,x⟩;apply aZ<;>intro R
   ·have d:h<a.length:=ee R;obtain⟨j,W,E⟩:=s.get d;refine bZ Z ?_;obtain⟨X,T,L,f,f2,rfl⟩:=E.cZ;refine cc _ (by rw[ck];exact W) ?_;have ab:=dJ (abK d);refine(Y a[h] _ om E (z _ (abK d))).pre [.box (qk O P k I K),.box (qk O P k I K),.box (qk X T L f f2)] (nP Z Rx Io hL) Z (fun ae aa s=>?_);cases r:ru a[h]with
    |false=>
     rw[r]at s;obtain⟨rfl,rfl⟩:=s;refine⟨Z,nP Z Rx Io hL,Z,?_⟩;refine⟨h+1,⟨d,fun o w u=>?_⟩,iK,.drop 9 ⟨Z,Z,int_eq (cp om),Z,tv⟩ Z Z ?_ Z Z Z Z,Z,Z⟩
     ·rcases Nat.lt_or_ge o h with h1|h1
      ·exact x o w h1
      ·obtain rfl:o=h:=om;exact r
     ·exact N _ _ Z Z
    |true=>
     rw[r]at s;obtain⟨rfl,rfl⟩:=s;refine⟨Z,nP Z Rx Io l,Z,?_⟩;refine cU.drop 7 ?_ ?_ ?_ ?_
     ·exact Z
     ·exact nP Z Rx Io l
     ·exact Z
     refine cU.now Z ?_;rw[Dz (abK d) r];exact⟨Z,Z⟩
   ·have d:a.length<=h:=dq R;refine cU.drop 7 ?_ ?_ ?_ ?_
    ·exact Z
    ·exact nP Z Rx Io hL
    ·exact Z
    refine cU.now Z ?_;rw[vd.2 (fun t J=>by
     obtain⟨o,w,rfl⟩:=List.mem_iff_getElem.1 J;exact x o w om)]
    exact⟨Z,Z⟩
 ·refine cU.drop 7 ?_ ?_ ?_ ?_
  ·exact Z
  ·exact nP Z Rx Io l
  ·exact Z
  refine cU.now Z ?_;rw[xK,e,aeN];exact⟨Z,Z⟩
theorem WK(b a:List V)(j h:ki)(n:fu 0 b=true)(o:fu 0 a=true)(w:fW 7 (.loop j)=true)(p:fW 7 (.loop h)=true)(l:∀d i,fu 0 d=true->fu 0 i=true->mJ 9 (j0 [bW 0] b a j++[.box d,.box i]) 9=true) 
  (z:∀(d:List V) (c:Ty) (e:cH) (r:cO->VS->Prop),eZ c e->ol c->ct c<4294967296->(lm c=false->r (.ret (bX true)) (j0 [bW 0] b a j++[.box d,.box (e.map V.d)]))->(lm c=true->r (.ret (bX false)) (j0 [bW 7] b a h++[.box d,.box (e.map V.d)]))->
   iA C ca 4 [.agg (e.map V.d)] (j0 [bW 0] b a j++[.box d]) r):∀(k:Nat) (c:Ty) (e:cH),k<4294967296->ct c<=k->eZ c e->ft c->bV C ca ez [.agg (e.map V.d),.bp 5 0,.bp 6 0] (j0 [bW 0] b a j) (WJ b a j h (ru c)):=by
 intro k;induction k with
 |zero=>intro c e _ E;have:=gO c;omega
 |succ k D=>intro c e B E q x;exact TV b a j h n o w p l z k (fun c e t s A=>D c e om t s A) c e E B q x
def Oy(a:ki):ki:={a with state:=.done,pending:=some .ret}
theorem TW(b a:List V)(d:ki)(h:fu 0 b=true)(i:fu 0 a=true)(l:fW 7 (.loop d)=true)(j:fW 9 (.loop d)=true) 
  (r:∀(c:List V) (t:Ty) (e:cH) (q:cO->VS->Prop),eZ t e->ol t->ct t<4294967296->(lm t=false->q (.ret (bX true)) (j0 [bW 0] b a d++[.box c,.box (e.map V.d)]))->(lm t=true->q (.ret (bX false)) (j0 [bW 7] b a (Oy d)++[.box c,.box (e.map V.d)]))->
   iA C ca 4 [.agg (e.map V.d)] (j0 [bW 0] b a d++[.box c]) q) (n:Nat) (t:Ty) (e:cH) (w:n<4294967296) (s:ct t<=n) (o:eZ t e) (p:ft t):bV C ca ez [.agg (e.map V.d),.bp 5 0,.bp 6 0] (j0 [bW 0] b a d) (WJ b a d (Oy d) (ru t)):=
 WK b a d (Oy d) h i l l (fun c k z x=>by
  simp only[j0,List.cons_append,List.nil_append,mJ,fW,gx 9 b h,gx 9 a i,gx 9 c z,gx 9 k x,Bool.true_and,Bool.and_true]at j⊢;rw[j];rfl) r n t e w s o p
def k6(t:Ty):Bool:=decide (4096<ct t)||decide (32<nD t)||ru t
theorem BI(t:Ty)(s:cH)(a:eZ t s)(l:ft t)(z:ct t<4294967295):bV C ca pS [.agg (s.map V.d)] [] fun B i=>i=[]/\B=.ret (bW (si (k6 t))):=by
 obtain⟨r,x,j,k,q,rfl⟩:=a.cZ;refine cm ?_;refine nF t _ a om ?_;apply aZ<;>intro c
 ·have h:=ee (a:=4096) c;repeat refine cg c ?_
  refine a8 0 ⟨Z,?_⟩;rw[k6,decide_eq_true h,aeN,aeN];rfl
 ·have h:=dq (a:=4096) c;repeat refine a7 c ?_
  refine MK _ t _ z (abL _) a ?_;repeat refine a7 c ?_
  apply aZ<;>intro d
  ·have e:=ee (a:=32) d;repeat refine cg d ?_
   refine a8 0 ⟨Z,?_⟩;rw[k6,decide_eq_true e,Bool.or_true,aeN];rfl
  ·have e:=dq (a:=32) d;repeat refine a7 d ?_
   have n:k6 t=ru t:=by rw[k6,decide_eq_false om,decide_eq_false om];rfl
   rw[n];refine cj ?_;refine cj ?_;refine(TW (qk r x j k q) (qk r x j k q) _ Z Z ?_ ?_ (fun D t s E a l w p A=>?_) _ t _ om (abL _) a l).mono (fun B i o=>?_)
   ·exact Z
   ·exact Z
   ·obtain⟨r,x,j,k,q,rfl⟩:=a.cZ;refine iA.intro ?_;refine EU t _ a l w ?_;cases b:lm t with
    |false=>exact p b
    |true=>exact A b
   ·cases b:ru t with
    |false=>
     rw[b]at o;obtain⟨rfl,rfl⟩:=o;exact a8 0 ⟨Z,Z⟩
    |true=>
     rw[b]at o;obtain⟨rfl,rfl⟩:=o;exact a8 0 ⟨Z,Z⟩
theorem qb(t:Ty)(e:cH)(a:eZ t e)(b:ft t)(d:ct t<4294967295){σ:VS}{K:cO->VS->Prop}(c:K (.ret (bW (si (k6 t)))) σ):bV C ca pS [.agg (e.map V.d)] σ K:=by
 obtain⟨j,k,h,l,i,rfl⟩:=a.cZ;exact cC (BI t _ a b d) Z Z c
def Rd.Nm(b:Rd):Prop:=∀a,a<b.ts.length->((b.tok a).kind=1->cK (b.tok a).text=true)/\((b.tok a).kind=2->dX (b.tok a).text=true)
theorem qc{s:cq}{R:Rd}(c:jl s=.ok R.ts):R.Nm:=by
 obtain⟨_,_,_,_,b⟩:=B8 c;intro h a;have:=bY a;obtain⟨e,d,_⟩:=b _ (List.mem_of_getElem? this);exact⟨e,d⟩
def Good(d:Nat->PR Ty)(e:Rd)(lo:Nat):Prop:=∀a c b,lo<=a->a<e.ts.length->d a=.ok c b->ft c/\ct c+a<=b/\a<b/\b<e.ts.length
theorem Kd{l a:List Ty}(h:l.Perm a):cy l=cy a:=by
 induction h with
 |nil=>rfl
 |cons e _ b=>simp only[cy,b]
 |swap e i l=>simp only[cy];omega
 |trans _ _ d c=>rw[d,c]
variable{f:Nat->PR Ty} {g:Rd}
theorem EV(z:g.Wf){lo:Nat}(q:Good f g lo):
  ∀(n:Nat) (a:List Ty) (d:Nat) (k:List Ty) (j:Nat),lo<=d->d<g.ts.length->(∀h∈a,ft h)->ey f g n a d=.ok k j->(∀h∈k,ft h)/\cy k+d<=cy a+j/\j<g.ts.length:=by
 intro n;induction n with
 |zero=>intro a d k j _ _ _ b;cases b
 |succ n w=>
  intro a d k j t s x b;rw[ey]at b;cases i:f d with
  |bad B G=>rw[i]at b;cases b
  |ok o q1=>
   rw[i]at b;obtain⟨r,D,C,l⟩:=q d o q1 t s i;have e:∀h∈a++[o],ft h:=fun h hx=>by
    rcases aet.1 hx with hx|hx
    ·exact x h hx
    ·simp at hx;subst hx;exact r
   have E:cy (a++[o])=cy a+ct o:=by rw[ga];simp[cy]
   dsimp only at b;split at b
   ·rename_i p;obtain⟨A,H,F⟩:=w _ _ _ _ om (z.step l p) e b;exact⟨A,om,F⟩
   ·cases c:cu g [[93]] q1 with
    |bad B G=>rw[c]at b;cases b
    |ok I q2=>
     rw[c]at b;cases b;have:=cL _ _ _ c;exact⟨e,om,da z _ _ _ l c⟩
variable{u:Nat}
theorem xN(e:g.Wf){p:Nat}(d:Good f g p)(a:p<g.ts.length){l:List Ty}(b:jV f g p=.ok l u):(∀h∈l,ft h)/\cy l+p<=u/\u<g.ts.length:=by
 rw[jV]at b;split at b
 ·rename_i c;obtain⟨k,i,j⟩:=EV e d _ _ _ _ _ om (e.step a c) sm b;simp only[cy]at i;exact⟨k,om,j⟩
 ·cases b;exact⟨by simp,by simp[cy],a⟩
structure FlG (tV:Bool) (l:List oG):Prop where
 name:∀x∈l,cK x.1=true
 all:∀x∈l,ft x.2.1
 tV:tV=false->∀x∈l,x.2.2=false
 nd:(l.map (·.1)).Nodup
variable{v:Bool}
theorem FlG.snoc{l:List oG}{n:cq}{t:Ty}{o:Bool}(c:FlG v l)(i:cK n=true)(e:ft t)(j:v=false->o=false)(h:n ∉ l.map (·.1)):FlG v (l++[(n,t,o)]):=by
 refine⟨fun x hx=>?_,fun x hx=>?_,fun a x hx=>?_,?_⟩
 ·rcases aet.1 hx with hx|hx
  ·exact c.name x hx
  ·simp at hx;subst hx;exact i
 ·rcases aet.1 hx with hx|hx
  ·exact c.all x hx
  ·simp at hx;subst hx;exact e
 ·rcases aet.1 hx with hx|hx
  ·exact c.tV a x hx
  ·simp at hx;subst hx;exact j a
 ·rw[List.map_append,List.nodup_append];refine⟨c.nd,by simp,?_⟩;intro q d p b k;simp only[List.map_cons,aeS,aeT]at b;subst k;subst b;exact h d
theorem BJ(x:g.Wf)(H:g.Nm){lo:Nat}(D:Good f g lo)(j o:cq)(a:Bool):
  ∀(B:Nat) (b:List oG) (c:Nat) (z:List oG) (t:Nat),lo<=c->c<g.ts.length->FlG a b->db f g j o a B b c=.ok z t->FlG a z/\cy (ea z)+c<=cy (ea b)+t/\t<g.ts.length:=by
 intro B;induction B with
 |zero=>intro b c z t _ _ _ d;cases d
 |succ B I=>
  intro b c z t S p J d;rw[db]at d;split at d
  ·cases d
  ·rename_i l;have l:(g.tok c).kind=1:=by simpa using l
   have i:c+1<g.ts.length:=x.go c _ (bY p) om;split at d
   ·cases d
   ·rename_i q;have s:(if a&&c5 (g.tok (c+1)) [63]then c+1+1 else c+1)<g.ts.length:=by
     split
     ·rename_i r;rw[aev]at r;exact x.step i r.2
     ·exact i
    have M:c+1<=(if a&&c5 (g.tok (c+1)) [63]then c+1+1 else c+1):=by split<;>omega
    cases h:cu g [[58]] (if a&&c5 (g.tok (c+1)) [63]then c+1+1 else c+1)with
    |bad K O=>rw[h]at d;cases d
    |ok U q2=>
     rw[h]at d;dsimp only at d;have w:=da x _ _ _ s h;have L:=cL _ _ _ h;cases n:f q2 with
     |bad K O=>rw[n]at d;cases d
     |ok C q1=>
      rw[n]at d;dsimp only at d;obtain⟨E,R,Q,A⟩:=D q2 C q1 om w n;have k:FlG a (b++[((g.tok c).text,C,a&&c5 (g.tok (c+1)) [63])]):=J.snoc ((H c p).1 l) E (fun F=>by rw[F];rfl) q;have T:cy (ea (b++[((g.tok c).text,C,a&&c5 (g.tok (c+1)) [63])]))=cy (ea b)+ct C:=by
       simp only[ea,List.map_append,ga,List.map_cons,aeS,cy,Nat.add_zero]
      split at d
      ·rename_i G;cases d;exact⟨k,om,x.step A G⟩
      ·cases e:cu g [j] q1 with
       |bad K O=>rw[e]at d;cases d
       |ok U q3=>
        rw[e]at d;have N:=cL _ _ _ e;obtain⟨P,W,V⟩:=I _ _ _ _ om (da x _ _ _ A e) k d;exact⟨P,om,V⟩
variable{y:cq}
theorem sW(w:g.Wf)(s:g.Nm){p:Nat}(o:Good f g p){b:cq}(a:p<g.ts.length){l:List oG}(i:eY f g y b v p=.ok l u):
  FlW v l/\(∀d∈ea l,ft d)/\cy (ea l)+p<=u/\u<g.ts.length:=by
 rw[eY]at i;split at i
 ·rename_i n;cases i;exact⟨⟨by simp,List.Pairwise.nil,by simp⟩,by simp[ea],by simp[ea,cy],w.step a n⟩
 ·cases h:db f g y b v g.ts.length [] p with
  |bad C D=>rw[h]at i;cases i
  |ok j B=>
   rw[h]at i;cases i;obtain⟨k,z,A⟩:=BJ w s o y b v _ _ _ _ _ (abL _) a ⟨by simp,by simp,by simp,by simp⟩ h;have a:=dE (key:=fun d:oG=>d.1) j;have e:(ea (cG (·.1) j)).Perm (ea j):=a.map _;refine⟨⟨fun d c=>k.name d (a.subset c),iG k.nd,fun q d c=>k.tV q d (a.subset c)⟩,fun d c=>?_,?_,A⟩
   ·obtain⟨x,r,rfl⟩:=List.mem_map.1 (e.subset c);exact k.all x r
   ·rw[Kd e];simp only[ea,aeS,cy]at z⊢;omega
theorem Qw(s:g.Wf)(x:g.Nm){I p l:Nat}{t:Ty}(i:Good f g p) 
  (d:u≠0->p<g.ts.length) (D:u=1->cK y=true) (K:u=2->dX y=true) (b:hO f g u y I p=.ok t l):ft t/\ct t+p<=l+1/\p<=l/\l<g.ts.length:=by
 obtain⟨B,F⟩:=Ok s (fun n t l w O P=>⟨(i n t l w O P).2.2.1,(i n t l w O P).2.2.2⟩) d b
 suffices ft t/\ct t+p<=l+1 from⟨this.1,this.2,B,F⟩
 unfold hO at b;split at b
 ·have d:=d om;split at b
  ·rename_i U e;cases b;refine⟨.mk (.base ?_) (by simp[dD,ea]),by simp[ct,cy,qa];omega⟩;unfold u9 at e;split at e
   ·cases e;omega
   ·split at e
    ·cases e;omega
    ·split at e
     ·cases e;omega
     ·split at e
      ·cases e;omega
      ·split at e
       ·cases e;omega
       ·cases e
  ·split at b
   ·obtain⟨w,a,rfl⟩:=fH b;rw[dO]at a;cases c:cu g [[91]] p with
    |bad H J=>rw[c]at a;cases a
    |ok M q1=>
     rw[c]at a;dsimp only at a;have A:=cL _ _ _ c;have k:=da s _ _ _ d c;cases G:f q1 with
     |bad H J=>rw[G]at a;cases a
     |ok t q2=>
      rw[G]at a;dsimp only at a;obtain⟨h,j,q,z⟩:=i q1 t q2 om k G;cases r:cu g [[93]] q2 with
      |bad H J=>rw[r]at a;cases a
      |ok M q3=>
       rw[r]at a;cases a;have N:=cL _ _ _ r;exact⟨.mk .list (by simp[dD,ea];exact h),by simp[ct,cy,qa];omega⟩
   ·split at b
    ·cases c:cu g [[40]] p with
     |bad H J=>rw[c]at b;cases b
     |ok M q1=>
      rw[c]at b;dsimp only at b;have A:=cL _ _ _ c;have k:=da s _ _ _ d c;cases E:eY f g [44] [41] true q1 with
      |bad H J=>rw[E]at b;cases b
      |ok V q2=>
       rw[E]at b;dsimp only at b;obtain⟨h,j,q,z⟩:=sW s x (fun n t l D=>i n t l om) k E;obtain⟨w,a,rfl⟩:=fH b;obtain⟨L,Q,T,S⟩:=i q2 w l om z a;refine⟨.mk (.func h) (fun R hx=>?_),?_⟩
       ·simp only[dD,aet,aeT]at hx;rcases hx with rfl|hx
        ·exact L
        ·exact j R hx
       ·simp only[ct,cy,nE];omega
    ·cases b
 ·split at b
  ·have d:=d om;split at b
   ·obtain⟨w,a,rfl⟩:=fH b;obtain⟨h,j,q,z⟩:=sW s x i d a;exact⟨.mk (.Rz h) (by simpa [dD]using j),by simp only[ct,cy,nE];omega⟩
   ·split at b
    ·obtain⟨w,a,rfl⟩:=fH b;obtain⟨h,j,q,z⟩:=sW s x i d a;exact⟨.mk (.vrt h) (by simpa [dD]using j),by simp only[ct,cy,nE];omega⟩
    ·cases b
  ·split at b
   ·rename_i C;obtain⟨w,a,rfl⟩:=fH b;obtain⟨h,j,q⟩:=xN s i (d om) a;exact⟨.mk (.ref (.inl Z) (K C)) (by simpa [dD,ea]using h),by simp only[ct,qa];omega⟩
   ·split at b
    ·rename_i C;have d:=d om;cases c:cu g [[58,58]] p with
     |bad H J=>rw[c]at b;cases b
     |ok M q1=>
      rw[c]at b;dsimp only at b;have A:=cL _ _ _ c;have k:=da s _ _ _ d c;split at b
      ·cases b
      ·rename_i o;have o:(g.tok q1).kind=2:=by simpa using o
       obtain⟨w,a,rfl⟩:=fH b;obtain⟨h,j,q⟩:=xN s (fun n t l D=>i n t l om) (s.go q1 _ (bY k) om) a;exact⟨.mk (.ref (.inr (D C)) ((x q1 k).2 o)) (by simpa [dD,ea]using h),by simp only[ct,qa];omega⟩
    ·cases b
theorem pt(r:g.Wf)(c:g.Nm):∀(h:Nat),Good (dl g h) g 0:=by
 intro h;induction h with
 |zero=>intro e o j _ _ i;cases i
 |succ h l=>
  intro e o j _ b i;rw[dl]at i;obtain⟨a,s,t,d⟩:=Qw r c (p:=e+1) (fun p o j _ q n=>l p o j (aeP _) q n) (fun k=>r.go e _ (bY b) k) (c e b).1 (c e b).2 i;exact ND
theorem TX(c:UInt8){σ:VS}{K:cO->VS->Prop}(b:K (.ret (bX (tF c))) σ):bV C ca tB [io c] σ K:=by
 refine cj ?_;refine sJ c ?_;apply aZ<;>intro a
 ·exact cg a (cg a (eL (by simp only[tF,a,aeN]) b))
 ·refine a7 a (pZ c ?_);exact a7 a (eL (by simp only[tF,a,Bool.false_or]) b)
theorem sh{b:Bool}(a:(!b)=true):b=false:=by cases b with
 |true=>cases a
 |false=>rfl
theorem zJ{b:Bool}(a:(!b)=false):b=true:=by cases b with
 |false=>cases a
 |true=>rfl
theorem aa9:Dc tB tF:=⟨rfl,fun a=>TX a⟩
theorem WL(a:cq){σ:VS}{K:cO->VS->Prop}(b:K (.ret (.dS [cn a,bX true])) σ):bV C ca oS [cn (118::a),cn [118]] σ K:=by
 refine cj ?_;refine cj ?_;refine oE (118::a) [118] ?_;refine bZ Z ?_;refine a6 ⟨by show 1<=_;simp,abL _⟩ ?_;show K (.ret (.dS [V.d (.str (List.drop 1 (List.take (118::a).length (118::a)))),bX true])) σ;rw[List.take_length];exact b
theorem TY(s:cq)(b:eB s [118]=false){σ:VS}{K:cO->VS->Prop}(a:K (.ret (.dS [cn s,bX false])) σ):bV C ca oS [cn s,cn [118]] σ K:=by
 refine cj ?_;refine cj ?_;refine oE s [118] ?_;refine cg (by rw[b];rfl) ?_;exact a
theorem EW(s:cq)(o:s.length<4294967296):bV C ca tA [cn s] [] fun b l=>l=[]/\cM b=true/\∃x,b=.ret (.dS [.d (.int .i64 x),bX (tS s)]):=by
 refine cm ?_;cases s with
 |nil=>
  refine TY [] Z ?_;refine a8 0 ⟨Z,Z,_,Z⟩
 |cons n b=>
  by_cases e:n=118
  ·subst e;have p:b.length<4294967295:=by simp only[aeO]at o;omega
   refine WL b ?_;have hI:tS (118::b)=(!decide (b=[])&&(decide (b.length<=3)&&(!(decide (1<b.length)&&decide (aeQ (b.headD 0).toNat=48))&&b.all isDigit))):=by rw[tS];rfl
   apply aZ<;>intro d
   ·have D2:b=[]:=of_decide_eq_true d;repeat refine cg d ?_
    refine a8 0 ⟨Z,Z,_,by rw[hI,D2];rfl⟩
   ·have D2:b≠[]:=of_decide_eq_false d;repeat refine a7 d ?_
    apply aZ<;>intro h
    ·have Ie:3<b.length:=ee (a:=3) h;repeat refine de ?_
     refine a8 0 ⟨Z,Z,_,by rw[hI,decide_eq_false D2,decide_eq_false (p:=b.length<=3) om];rfl⟩
    ·have Ie:b.length<=3:=dq (a:=3) h;repeat refine de ?_
     obtain⟨c,r2,rfl⟩:∃c r2,b=c::r2:=by cases b with
      |nil=>exact absurd rfl D2
      |cons c r2=>exact⟨c,r2,rfl⟩
     apply aZ<;>intro j
     ·have k:1<(c::r2).length:=ee (a:=1) j;repeat refine de ?_
      refine bZ Z (cc c Z ?_);repeat refine de ?_
      apply aZ<;>intro i
      ·repeat refine de ?_
       refine a8 0 ⟨Z,Z,_,by rw[hI,decide_eq_true k,show decide (aeQ ((c::r2).headD 0).toNat=48)=true from i];simp;rfl⟩
      ·have hB:(decide (1<(c::r2).length)&&decide (aeQ ((c::r2).headD 0).toNat=48))=false:=by rw[show decide (aeQ ((c::r2).headD 0).toNat=48)=false from i,Bool.and_false]
       exact Ya
     ·have hB:(decide (1<(c::r2).length)&&decide (aeQ ((c::r2).headD 0).toNat=48))=false:=by rw[decide_eq_false (Nat.not_lt.2 (dq (a:=1) j)),Bool.false_and]
      exact Ya
  ·refine TY (n::b) (by show(decide ((118:UInt8)=n)&&true)=false;rw[decide_eq_false fun q=>e q.symm];rfl) ?_;refine a8 0 ⟨Z,Z,_,by rw[tS,decide_eq_false e];rfl⟩
theorem HH(s:cq)(c:s.length<4294967296){σ:VS}{K:cO->VS->Prop}(b:∀a,K (.ret (.dS [.d (.int .i64 a),bX (tS s)])) σ):bV C ca tA [cn s] σ K:=
 bV.closed (P:=fun d=>∃a,d=.ret (.dS [.d (.int .i64 a),bX (tS s)])) (EW s c) rfl (fun d ⟨a,e⟩=>by rw[e];exact b a)
theorem MM(s:cq)(d:s.length<4294967296){σ:VS}{K:cO->VS->Prop}(c:∀b a,K (.ret (.d (.ps b 0 1 a (eW (c0 s))))) σ):bV C ca tz [cn s,cn [47]] σ K:=
 bV.closed (P:=fun e=>∃b a,e=.ret (.d (.ps b 0 1 a (eW (c0 s))))) (J9 s d) rfl (fun e ⟨b,h,i⟩=>by rw[i];exact c b h)
theorem HI(s:cq):∀b∈c0 s,b.length<=s.length:=by
 induction s with
 |nil=>intro b h;simp[c0]at h;subst h;exact abL _
 |cons i d a=>
  intro b h;rw[c0]at h;split at h
  ·rcases List.mem_cons.1 h with rfl|h
   ·exact aeP _
   ·exact Nat.le_succ_of_le (a b h)
  ·cases c:c0 d with
   |nil=>exact absurd c (lR d)
   |cons e j=>
    rw[c]at h a;rcases List.mem_cons.1 h with rfl|h
    ·exact Nat.succ_le_succ (a e sm)
    ·exact Nat.le_succ_of_le (a b (by simp[h]))
theorem HJ(s:cq)(M:s.length<4294967296):bV C ca uN [cn s] [] fun r N=>N=[]/\cM r=true/\r=.ret (bX (fV s)):=by
 refine cm ?_;refine cj ?_;refine MM s M (fun P w=>?_);obtain⟨a,e⟩:∃a,a=c0 s:=⟨_,rfl⟩;have F:a≠[]:=e▸lR s;have A:∀d∈a,d.length<=s.length:=e▸HI s;have n:fV s=(tS (a.getLastD [])&&(decide (s.length<=64)&&(decide (2<=a.length)&&a.all fun d=>cK d&&d.all tF))):=by rw[fV,<-e]
 rw[<-e];have B:0<a.length:=List.length_pos_iff.2 F;have k:(eW a).length=a.length:=by simp[eW]
 have p:∀c (h:c<a.length),nth (eW a) c=some [D.str a[c]]:=fun c h=>by rw[ck,eW,List.getElem?_map,aeu h];rfl
 have Q:a.length<=s.length+1:=by
  have U:countB 47 s<=s.length:=by
   clear M A n e;exact abW
  rw[e,Du];omega
 have q:a.getLastD []=a[a.length-1]:=by rw[List.getLastD_eq_getLast?,List.getLast?_eq_getElem?,aeu om];rfl
 have j:∀c (h:c<a.length),a[c].length<4294967296:=fun c h=>by have:=A _ (abK h);omega
 refine bZ (m:=a.length-1) (by rw[k];exact r8 B om) ?_;refine cc [.str (a[a.length-1])] (p _ om) ?_;refine HH _ (j _ om) (fun d=>?_);rw[<-q];apply aZ<;>intro I
 ·have o:=sh I;repeat refine de ?_
  refine a8 0 ⟨Z,Z,by rw[n,o];rfl⟩
 ·have o:=zJ I;repeat refine de ?_
  apply aZ<;>intro G
  ·have x:64<s.length:=ee (a:=64) G;repeat refine de ?_
   refine a8 0 ⟨Z,Z,by rw[n,decide_eq_false (p:=s.length<=64) om,Bool.false_and,Bool.and_false];rfl⟩
  ·have x:s.length<=64:=dq (a:=64) G;repeat refine de ?_
   apply aZ<;>intro L
   ·have z:a.length<2:=by have:=ee (b:=2) L;omega
    refine a8 0 ⟨Z,Z,by rw[n,decide_eq_false (p:=2<=a.length) om];simp;rfl⟩
   ·have z:2<=a.length:=by have:=dq (b:=2) L;omega
    have t:fV s=a.all fun d=>cK d&&d.all tF:=by rw[n,o,decide_eq_true x,decide_eq_true z];rfl
    refine cd.less (dB:=[(5,.d (.int .i64 d)),(33,.d (.ps P 0 1 w (eW a))),(34,bW a.length),(35,bW 0)]) ⟨Z,Z,int_eq (by rw[k]),Z,tv⟩ ?_;refine cd.iter (fun c:Nat=>[(5,.d (.int .i64 d)),(33,.d (.ps P 0 1 w (eW a))),(34,bW a.length),(35,bW c)]) (fun _=>[]) (fun c=>a.length-c) (fun c=>c<=a.length/\(a.take c).all (fun d=>cK d&&d.all tF)=true) ?_ 0 ⟨aeP _,Z⟩;rintro c ⟨T,E⟩;apply aZ<;>intro H
    ·have b:c<a.length:=ee H;have K:cK a[c]=false∨a[c].all tF=false->fV s=false:=fun h=>by
      rw[t,List.all_eq_false];exact⟨a[c],abK b,by rcases h with h|h<;>simp[h]⟩
     refine bZ Z ?_;refine cc [.str a[c]] (p c b) ?_;refine ic _ (j c b) ?_;apply aZ<;>intro J
     ·have i:=sh J;repeat refine de ?_
      refine a8 0 ⟨Z,Z,by rw[K (.inl i)];rfl⟩
     ·have i:=zJ J;repeat refine de ?_
      refine xV aa9 _ (j c b) ?_;repeat refine de ?_
      apply aZ<;>intro O
      ·have l:=sh O;repeat refine de ?_
       refine a8 0 ⟨Z,Z,by rw[K (.inr l)];rfl⟩
      ·have l:=zJ O;repeat refine de ?_
       refine⟨c+1,⟨b,?_⟩,iK,.eS,Z,Z⟩;rw[List.take_add_one,aeu b];simp only[List.all_append,E,Option.toList,List.all_cons,List.all_nil,i,l,Bool.and_true]
    ·have b:a.length<=c:=dq H;rw[List.take_of_length_le b]at E;refine a8 0 ⟨Z,Z,by rw[t,E];rfl⟩
theorem lH(s:cq)(b:s.length<4294967296){σ:VS}{K:cO->VS->Prop}(a:K (.ret (bX (fV s))) σ):bV C ca uN [cn s] σ K:=
 bV.closed (P:=fun c=>c=.ret (bX (fV s))) (HJ s b) rfl (fun c d=>by rw[d];exact a)
structure StF (g:FuncId) (fn:Nat->PR cq) (R:Rd):Prop where
 lt:∀p s q,p<R.ts.length->fn p=.ok s q->p<q/\q<R.ts.length
 call:∀p,p<R.ts.length->∀(i:Nat) {σ:VS} {K:cO->VS->Prop},nth σ i=some (dp R p)->(∀s q,fn p=.ok s q->K (.ret (cn s)) (σ.set i (dp R q)))->(∀off e q,fn p=.bad off e->K (.eH (dt off e)) (σ.set i (dp R q)))->bV C ca g [.bp i 0] σ K
theorem jG(w:g.Wf){c p b:Nat}{s:cq}(d:c≠0)(h2:p<g.ts.length)(h:jY c g p=.ok s b):p<b/\b<g.ts.length:=by
 rw[jY]at h;split at h
 ·cases h
 ·rename_i a;have a:(g.tok p).kind=c:=by simpa using a
  exact XY
theorem nG(r:g.Wf){k:Nat}(q:k≠0){p:Nat}(i:p<g.ts.length)(c:Nat){σ:VS}{K:cO->VS->Prop}(b:nth σ c=some (dp g p))(h:∀n d,jY k g p=.ok n d->K (.ret (cn n)) (σ.set c (dp g d)))(j:∀a e d,jY k g p=.bad a e->K (.eH (dt a e)) (σ.set c (dp g d))):
  bV C ca uJ [.bp c 0,bW k] σ K:=by
 have l:=r.len;refine se g p k _ (bY i) om c b (fun o=>?_) (fun o=>?_)
 ·have e:eu (g.tok p) p=p+1:=by rw[eu,if_neg om]
  rw[e];exact h _ _ (by rw[jY,if_neg om])
 ·exact j _ _ _ (by rw[jY,if_pos o])
theorem pu(o:g.Wf){p:Nat}(h:p<g.ts.length)(c:Nat){σ:VS}{K:cO->VS->Prop}(b:nth σ c=some (dp g p))(e:∀k d,dh g p=.ok k d->K (.ret (cn k)) (σ.set c (dp g d)))(i:∀a n d,dh g p=.bad a n->K (.eH (dt a n)) (σ.set c (dp g d))):
  bV C ca wR [.bp c 0] σ K:=by
 have j:=o.len;refine kH g p _ (bY h) om c b (fun l=>?_) (fun l=>?_)
 ·exact e _ _ (by rw[dh,if_neg om])
 ·exact i _ _ _ (by rw[dh,if_pos l])
theorem ve(o:g.Wf):StF BB (iS g) g:=by
 have r:=o.len;refine⟨fun p s e n h=>?_,fun p i q t w c k l=>?_⟩
 ·rw[iS]at h;split at h
  ·exact jG o dc n h
  ·exact fS o n h
 ·refine cj ?_;refine eF g p _ (bY i) q c ?_;apply aZ<;>intro h
  ·have b:(g.tok p).kind=2:=AJ h;refine nG o dc i q c (fun s e d=>?_) (fun a j e d=>?_)
   ·exact k s e (by rw[iS,if_pos b,d])
   ·exact l a j e (by rw[iS,if_pos b,d])
  ·have b:(g.tok p).kind≠2:=fun d=>by rw[d]at h;cases h
   refine pu o i q c (fun s e d=>?_) (fun a j e d=>?_)
   ·exact k s e (by rw[iS,if_neg b,d])
   ·exact l a j e (by rw[iS,if_neg b,d])
theorem TZ(l:g.Wf):∀(e:Nat) (s:cq) (d:Nat) (i:cq) (b:Nat),d<g.ts.length->oU g e s d=.ok i b->d<=b/\b<g.ts.length:=by
 intro e;induction e with
 |zero=>intro s d i b _ a;cases a
 |succ e h=>
  intro s d i b c a;rw[oU]at a;split at a
  ·rename_i j;split at a
   ·cases a
   ·rename_i p q1 k;obtain⟨r,o⟩:=fS l (l.step c j) k;obtain⟨q,n⟩:=h _ _ _ _ o a;exact⟨om,n⟩
  ·cases a;exact⟨abL _,c⟩
theorem T0(h:g.Wf){p b:Nat}{s:cq}(d:p<g.ts.length)(a:hP g p=.ok s b):p<b/\b<g.ts.length:=by
 rw[hP]at a;split at a
 ·cases a
 ·rename_i k q1 e;obtain⟨n,j⟩:=fS h d e;split at a
  ·cases a
  ·rename_i o q2 c;obtain⟨l,i⟩:=TZ h _ _ _ _ _ j c;split at a
   ·cases a;exact⟨om,i⟩
   ·cases a
def Zz(e:Rd)(h:PR cq)(d:cO)(b:List V):Prop:=match h with
 |.ok i c=>b=xa e c/\d=.ret (cn i)
 |.bad a j=>∃c,b=xa e c/\d=.eH (dt a j)
variable{m:FuncId}
theorem StF.of{fn:Nat->PR cq}(c:∀b n q,b<g.ts.length->fn b=.ok n q->b<q/\q<g.ts.length)(h:∀b,b<g.ts.length->bV C ca m [.bp 0 0] [dp g b] fun k i=>∃a,i=[.box a]/\cM k=true/\fu 0 a=true/\Zz g (fn b) k a):StF m fn g:=by
 refine⟨c,fun b l p r s d j k2=>?_⟩;refine bV.one (dM:=[.bp 0 0]) (P:=Zz g (fn b)) (h b l) p d Z Z Z (fun k a h=>?_);unfold Zz at h;split at h
 ·rename_i o q e;obtain⟨rfl,rfl⟩:=h;exact j o q e
 ·exact Vp
theorem Rd.Nm.short(h:g.Nm){p e:Nat}{s:cq}(d:p<g.ts.length)(c:dh g p=.ok s e):s.length<=32/\e=p+1:=by
 rw[dh]at c;split at c
 ·cases c
 ·rename_i a;have a:(g.tok p).kind=1:=by simpa using a
  have b:=(h p d).1 a;cases c;simp only[cK,aev,decide_eq_true_eq]at b;exact⟨b.1.1.1.2,Z⟩
theorem xO(s:g.Wf)(p:g.Nm)(N:g.ts.length<=65537):StF EH (hP g) g:=by
 have J:=s.len;refine StF.of (fun r e k I t=>T0 s I t) (fun r o=>?_);refine cj ?_;refine eF g r _ (bY o) 0 Z ?_;refine pu s o 0 Z (fun c b q=>?_) (fun C H k L=>?_)
 ·obtain⟨_,z⟩:=fS s o q;obtain⟨M,T⟩:=p.short o q;refine cD (dB:=[(0,.bp 0 0),(3,bW (g.tok r).off),(4,cn c)]) ?_;refine cd.iter (fun d:Nat×cq=>[(0,.bp 0 0),(3,bW (g.tok r).off),(4,cn d.2)]) (fun d=>[dp g d.1]) (fun d=>g.ts.length-d.1)
   (fun d=>d.1<g.ts.length/\d.2.length<=33*d.1/\∃n,g.ts.length-d.1<=n/\oU g g.ts.length c b=oU g n d.2 d.1) ?_ (b,c) ⟨z,by show c.length<=33*b;omega,_,by show g.ts.length-b<=g.ts.length;omega,rfl⟩
  rintro⟨k,e⟩ ⟨B,w,n,F,A⟩;have x:k<g.ts.length:=B;have S:e.length<=33*k:=w;have R:g.ts.length-k<=n:=F;have a:oU g g.ts.length c b=oU g n e k:=A;clear B w F A;obtain⟨n,rfl⟩:∃K,n=K+1:=⟨n-1,om⟩;rw[oU]at a;have l:hP g r=match oU g g.ts.length c b with
    |.bad Q L=>.bad Q L
    |.ok e k=>if fV e then .ok e k else .bad (g.tok r).off 4:=by rw[hP,q];rfl
  refine cI g k (g.tok k) [47] (bY x) om 0 Z (fun t=>?_) (fun t=>?_)
  ·have h:=s.step x t;rw[if_pos t]at a;refine pu s h 0 Z (fun G q2 i=>?_) (fun C H q2 i=>?_)
   ·obtain⟨_,E⟩:=fS s h i;obtain⟨P,U⟩:=p.short h i;rw[i]at a;refine a6 ?_ ?_
    ·show 1+G.length<=_;omega
    refine a6 ?_ ?_
    ·show e.length+(47::G).length<=_;simp only[aeO];omega
    refine⟨(q2,e++47::G),⟨E,by show(e++47::G).length<=33*q2;simp only[List.length_append,aeO];omega,n,by show g.ts.length-q2<=n;omega,a⟩,by show g.ts.length-q2<g.ts.length-k;omega,.eS,Z,Z⟩
   ·rw[i]at a;rw[a]at l;exact⟨_,Z,Z,Z,by rw[l];exact⟨_,rfl,rfl⟩⟩
  ·rw[if_neg (by rw[t];decide)]at a;rw[a]at l;refine lH e om ?_;apply aZ<;>intro D
   ·have j:fV e=false:=by simpa using D
    refine fK _ (g.tok r).off 4 ?_;exact⟨_,Z,Z,Z,by rw[l];dsimp only;rw[if_neg (by rw[j];decide)];exact⟨_,rfl,rfl⟩⟩
   ·have j:fV e=true:=by simpa using D
    exact⟨_,Z,Z,Z,by rw[l];dsimp only;rw[if_pos j];exact⟨rfl,rfl⟩⟩
 ·exact⟨_,Z,Z,Z,by rw[hP,L];exact⟨_,rfl,rfl⟩⟩
theorem rr.acU{n:Nat}{σ fU:VS}(s:rr n σ fU){a:List Nat}(hcs:∀i∈a,i<n)(h0:0<n){h:uw}{c:Code}{e:Tm}{r:Bu->Tm->List fq->lJ->VS->Prop}(j:h.fl=n) 
  (l:mP [(0,.bp 0 0),(1,.fn m [] (nC a))] e) (o:cd C ca h c [(0,.bp 0 0),(1,.fn m [] (nC a))] [] .none fU r):cd C ca h c e [] .none σ r:=by
 obtain⟨b,k,p,h3,q⟩:=s;have d:∀i,i<n->jT b σ.length i=i:=fun i hi=>by
  have:=rW k hi;rw[kM this];omega
 refine cd.pick n b (dB:=[(0,.bp 0 0),(1,.fn m [] (nC a))]) ?_ ?_ (by rw[j,aeR];exact abL n) k Z Z p q o
 ·show mP [(0,V.bp (jT b σ.length 0) 0),(1,V.fn m [] (hU (jT b σ.length) (nC a)))] e;rw[d 0 h0,J5 hcs d];exact l
 ·show(Nat.blt 0 fU.length&&(((true&&fu fU.length (nC a))&&true)))=true;exact aad
def ad6:Nat->Bool:=fun a=>Nat.beq a 5||Nat.beq a 13||Nat.beq a 1000002
theorem FQ{q w:Type}(f:g.Wf)(step:q->Nat->PR q)(I:q->w->Nat->Prop)(D:w->VS)(j:VS)(n:Nat)(r:FuncId)(X:(C.ff.get r).isSome=true)(l:List Nat){g0:q}{a0:w}{p:Nat}(aa:p<g.ts.length)(L:c5 (g.tok p) [91]=true)(R:I g0 a0 (p+1))(W:∀k b c,I k b c->I k b (c+1))(u:j++[.gone]=D a0)(ad:j.length+1=n)(E:∀b,n<=(D b).length+1)(U:∀am∈l,am<n) 
  (ac:∀k b c,I k b c->p<=c->c<g.ts.length->∀G:cO->VS->Prop,
   (∀o h a d,step k c=.ok o a->I o h a->c<a->a<g.ts.length->rr n (dp g a::d) (dp g a::D h)->G (.ret (.dS [])) (dp g a::d))->
   (∀i z a d,step k c=.bad i z->n<=d.length+1->G (.eH (dt i z)) (dp g a::d))->bV C ca r (nC l) (dp g c::D b) G)
  {K:cO->VS->Prop} (J:∀k b c,jZ step g g0 p=.ok k c->I k b c->p<c->c<g.ts.length->K (.ret (.dS [])) (dp g c::D b))
  (A:∀i z c d,jZ step g g0 p=.bad i z->n<=d.length+1->K (.eH (dt i z)) (dp g c::d)):
  bV C ca EM [.bp 0 0,.fn r [] (nC l)] (dp g p::j) K:=by
 have y:=f.len;refine cv ad6 (fun _=>Z) ?_;intro ak;refine gZ f [91] aa ak _ 0 Z (fun _ H=>?_) (fun al=>absurd al (by rw[L];decide));refine cD (dB:=[(0,.bp 0 0),(1,.fn r [] (nC l))]) ?_;refine cd.gone ?_;show cd _ _ _ _ _ _ _ (dp g (p+1)::(j++[.gone])) _;rw[u];refine cd.iter (fun _:Nat×q×w=>[(0,.bp 0 0),(1,.fn r [] (nC l))]) (fun b=>dp g b.1::D b.2.2) (fun b=>g.ts.length-b.1)
  (fun b=>p<b.1/\b.1<g.ts.length/\I b.2.1 b.2.2 b.1/\∃t,g.ts.length-b.1<=t/\jZ step g g0 p=qY step g t b.2.1 b.1) ?_ (p+1,g0,a0) ⟨Nat.lt_succ_self p,H,R,_,by show g.ts.length-(p+1)<=g.ts.length;omega,by rw[jZ,if_pos L]⟩
 rintro⟨c,k,b⟩ ⟨S,O,M,t,P,Q⟩;have ag:p<c:=S;have v:c<g.ts.length:=O;have V:I k b c:=M;have aj:g.ts.length-c<=t:=P;have e:jZ step g g0 p=qY step g t k c:=Q;clear S O M P Q R;obtain⟨t,rfl⟩:∃ab,t=ab+1:=⟨t-1,om⟩;rw[qY]at e;conv=>whnf
 rw[X];refine ac k b c V om v _ (fun o h a d z B ae s T=>?_) (fun i ai a d z N=>?_)
 ·rw[z]at e;dsimp only at e;refine T.acU U om ad ⟨Z,Z,tv⟩ ?_;refine xC ?_;refine cI g a (g.tok a) [44] (bY s) om 0 Z (fun x=>?_) (fun x=>?_)
  ·rw[if_pos x]at e;refine⟨(a+1,o,h),⟨by show p<a+1;omega,f.step s x,W _ _ _ B,t,by show g.ts.length-(a+1)<=t;omega,e⟩,by show g.ts.length-(a+1)<g.ts.length-c;omega,.eS,Z,Z⟩
  ·rw[if_neg (by rw[x];decide)]at e;intro m;refine gZ f [93] s m _ 0 Z (fun F Y=>?_) (fun F af=>?_)
   ·rw[vX F]at e;refine cU.now (by rw[aeR];show j.length+1<=(D h).length+1;have:=E h;omega) ?_;exact J o h (a+1) e (W _ _ _ B) om Y
   ·refine cU.now (by rw[aeR];show j.length+1<=(D h).length+1;have:=E h;omega) ?_;exact A _ _ _ _ (by rw[e];simp only[cu,F,if_false,Bool.false_eq_true,PR.map]) (E h)
 ·rw[z]at e;refine cU.now (by rw[aeR];show j.length+1<=d.length+1;omega) ?_;exact A _ _ _ _ e N
end Go.Proofs.YtpejealjkmhkgaaGreatDoor
