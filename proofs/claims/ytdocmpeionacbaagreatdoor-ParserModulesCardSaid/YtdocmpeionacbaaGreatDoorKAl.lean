/- Part of the proof. -/
import Derived.Test.YtdocmpeionacbaaGreatDoorKAk
set_option linter.all false
set_option maxHeartbeats 16000000
set_option maxRecDepth 100000
open Int renaming ofNat_eq_natCast->ais,ofNat->ait
open List renaming getElem?_eq_getElem->aiu,getElem_mem->aiv,take_of_length_le->aix,length_cons->aiy,drop_eq_getElem_cons->aiA,length_append->aiB,isPrefixOf->aiC,drop_of_length_le->aiD,mem_singleton->aiE,length_nil->aiF,length_take->aiG,mem_cons->aiH,mem_append->aiI,take_add_one->aiJ,cons_append->aiK,nil_append->aiM,take_append_drop->aiN,length_singleton->aiO,append_nil->aiP,mem_map->aiU,length_map->aiW,take_zero->aiX,map_cons->aiZ,mem_of_getElem?->ai3,length->j'
open Nat renaming zero_le->aiw,le_refl->aiz,pow_le_pow_right->aiQ,beq->aiR,le_add_right->aiV,add_assoc->aiY,le_trans->ai1,le_of_ble_eq_true->ai2
open Bool renaming and_eq_true->aiL,false_eq_true->aiS,and_true->aiT,true_and->ai0,true->A',false->B'
open Option renaming toList_some->ai4,some->q',none->u'
namespace Go.Proofs.YtdocmpeionacbaaGreatDoor
open Go.AM Go.VM
theorem od.get{l:n_ ij}{els:n_ cP}(h:od l els){i:Nat}(hi:i<j' l):∃d,els[i]?=q' (Ip l[i] d)/\fF l[i].ty d:=by
 exact tp
def qm(k:Nat)(m n x:cC)(num:Int)(ty a b:D):n_ V:=[cl k,cv m,cv n,cv x,.d (.int .i64 num),.d ty,.d a,.d b]
def lty(a:n_ ij):n_ Ty:=a.map ij.ty
variable{W:n_ ij} {N u:Nat}
theorem aaa(h:u<j' W):lty (W.take (u+1))=lty (W.take u)++[W[u].ty]:=by
 grind [lty,aiJ]
def agB:Nat->Bool:=λa=>aiR a 22
def ahZ(b:n_ V)(a:n_ cP):VS:=[.box b,kO 5 a]
def WW(k:Nat)(m n x:cC)(num:Int)(ty H g:D)(types:n_ Ty)(labels:n_ ij)(u:ft types ty)(P:e9 labels H)(T:k=8->types=[])(Y:j' types+j' labels<4294967296):
  b7 C cm uW [.agg (qm k m n x num ty H g)] [] λo G=>G=[]/\da o=A'/\∃Q,NZ (types++(if k=8 then lty labels else [])) Q/\o=.ret (.d Q):=by
 refine cB agB (λ_=>Z) ?_;refine cA ?_;by_cases l:k=8
 ·have f:decide (ait k=8)=A':=by rw[l];exact a_ rfl
  have:=T l;subst this;rw[X' l];have F:ty=.cu:=by
   cases u with
   |nil=>rfl
   |ps h j=>cases h;exact Y' rfl j
  subst F;refine b9 f ?_;cases P with
  |nil=>
   refine ck.loop ?_;refine a8 0 ⟨Z,Z,.cu,.nil,Z⟩
  |ps y=>
   rename_i S K c d;have z:=y.len;refine ck.gone ?_;refine ck.less (fx:=[(3,kV 1 5 []),(13,.d (.ps S K 8 c d)),(14,cl (j' labels)),(15,cl 0)]) ⟨Z,Z,int_eq (by rw[z]),Z,tv⟩ ?_;refine ck.iter (λx:Nat×n_ cP=>[(3,kV 1 5 x.2),(13,.d (.ps S K 8 c d)),(14,cl (j' labels)),(15,cl x.1)]) (λX=>ahZ (qm k m n x num .cu (.ps S K 8 c d) g) X.2) (λx=>j' labels-x.1)
    (λx=>x.1<=j' labels/\dZ (lty (labels.take x.1)) x.2) ?_ (0,[]) ⟨aiw _,by exact .nil⟩
   rintro⟨t,i⟩ ⟨J,a⟩;have J:t<=j' labels:=J;have a:dZ (lty (labels.take t)) i:=a;have B:=a.len;rw[lty,aiW,aiG]at B;apply aZ<;>intro N
   ·have b:t<j' labels:=eK N;have⟨Q,U,w⟩:=y.get b;obtain⟨p,s,tn,q,r,rfl⟩:=w.dL;have e:dZ (lty (labels.take (t+1))) (i++[[.int .i64 (ait p),.str s,.str tn,q,r]]):=by rw[aaa b];exact a.snoc w
    refine bZ Z ?_;refine cp (Ip labels[t] _) (by rw[cx];exact U) ?_;rcases i with _|⟨M,o⟩
    ·intro O;refine a6 Z (a6 ⟨ai2 Z,ai2 Z⟩ ?_);refine⟨(t+1,_),⟨b,e⟩,ik,?_,Z,Z⟩;exact .pick 1 [0,3] ⟨Z,Z,Z,int_eq (cF om),tv⟩ Z Z Z Z Z dc ⟨Z,Z,mZ _ 5 [.int .i64 (ait p),.str s,.str tn,q,r],iE _ _ _,tv⟩
    intro O;have A:j' o+1<=4294967296:=by simp only[aiy]at B;omega
    refine a6 Z (a6 ⟨Z,Z,by simp,aiz _,Ak A⟩ ?_);refine a7 Z (a7 (ej (j' o+1)) ?_);refine⟨(t+1,_),⟨b,e⟩,ik,?_,Z,Z⟩;exact .pick 1 [0,3] ⟨d_ q' (mI 3 5 M o [.int .i64 (ait p),.str s,.str tn,q,r]),Z,Z,int_eq (cF om),tv⟩ Z Z Z Z Z dc ⟨Z,Z,l2 _ 5 M o [.int .i64 (ait p),.str s,.str tn,q,r],iE _ _ _,tv⟩
   have b:j' labels<=t:=dK N;rw[aix b]at a;rcases i with _|⟨M,o⟩
   ·have R:lty labels=[]:=List.eq_nil_of_length_eq_zero a.len.symm;refine a8 0 ⟨Z,Z,.cu,by rw[R];exact .nil,Z⟩
   exact kF 0 (j' o+1) Z Z a
 have f:decide (ait k=8)=B':=Z' λM=>l (by simp only[ais]at M;omega);rw[W' l,aiP];cases u with
 |nil=>
  refine a7 f ?_;refine a8 0 ⟨Z,Z,.cu,.nil,Z⟩
 |ps h j=>
  rename_i ab aa W v;cases v with
  |nil=>exact Y' rfl j
  |cons V I=>
   have L:=h.len;have E:j' I+1<4294967296:=by simp only[aiy]at L;omega
   refine a6 Z (a6 ⟨Z,Z,aiz _,aiz _,ys V I E⟩ ?_);refine a7 Z (a7 Z ?_);refine a7 f ?_;refine kF (els:=V::I) 1 _ sm ?_ (by simpa using h);exact Z
variable{g:dt->VS->Prop} {y:VS}
def P5(b:Ex)(a:cP)(d:iz b a)(f:∀k m n x num types labels kids,b=.mk k m n x num types labels kids->k=8->types=[])(p:cQ (ov b)<4294967296)(c:∀k m n x num types labels kids,b=.mk k m n x num types labels kids->j' types+j' labels<4294967296)(e:∀a,NZ (ov b) a->g (.ret (.d a)) y):b7 C cm uW [.agg (a.map V.d)] y g:=by
 cases d with
 |mk ht l q=>
  rename_i k m n x num types labels kids ty j i;exact b7.closed (P:=λo=>∃a,NZ (types++(if k=8 then lty labels else [])) a/\o=.ret (.d a)) (WW k m n x num ty j i types labels ht l (f _ _ _ _ _ _ _ _ Z) (c _ _ _ _ _ _ _ _ Z)) Z λo ⟨a,h,b⟩=>by rw[b];exact e a h
abbrev lw(b:ij)(a:cP):V:=.agg ((Ip b a).map V.d)
variable{H:n_ V}
def WX(d:(C.ff.get u).isSome=A')(q:D)(labels:n_ ij)(m:e9 labels q)(v:j' labels<4294967296) 
  (k:∀(j:Nat) (E:j<j' labels) (l:cP),fF labels[j].ty l->∀{g:dt->VS->Prop},g (.ret (cj B')) y->b7 C cm u (lw labels[j] l::H) y g) (e:g (.ret (.d (.int .i64 (-1)))) y):b7 C cm qh [.d q,.fn u [] H] y g:=by
 refine cA ?_;cases m with
 |nil=>
  refine ck.loop ?_;exact e
 |ps h=>
  rename_i r p a b;have f:=h.len;refine ck.less (fx:=[(0,.d (.ps r p 8 a b)),(1,.fn u [] H),(7,cl (j' labels)),(8,cl 0)]) ⟨Z,Z,int_eq (by rw[f]),Z,tv⟩ ?_;refine ck.iter (λi:Nat=>[(0,.d (.ps r p 8 a b)),(1,.fn u [] H),(7,cl (j' labels)),(8,cl i)]) (λ_=>y) (λi=>j' labels-i) (λi=>i<=j' labels) ?_ 0 (aiw _);intro i x;apply aZ<;>intro o
  ·have hi':i<j' labels:=eK o;have⟨l,n,c⟩:=h.get hi';obtain⟨s,B,tn,t,w,rfl⟩:=c.dL;refine bZ Z ?_;refine cp _ (by rw[cx];exact n) ?_;refine b9 d ?_;refine k i hi' _ c ?_;exact xW
  exact e
def qE(a:(C.ff.get u).isSome=A')(b:D)(labels:n_ ij)(c:e9 labels b)(e:j' labels<4294967296) 
  (h:∀(f:Nat) (j:f<j' labels) (i:cP),fF labels[f].ty i->∀{g:dt->VS->Prop},g (.ret (cj B')) y->b7 C cm u (lw labels[f] i::H) y g) (d:g (.ret (cj B')) y):b7 C cm eB [.d b,.fn u [] H] y g:=by
 refine cA ?_;refine WX a b labels c e h ?_;exact d
variable{T:cP}
def BL(a:ij)(b:fF a.ty T)(c:g (.ret (cv a.n)) y):b7 C cm mf [lw a T] y g:=by
 obtain⟨e,d,tn,f,h,rfl⟩:=b.dL;refine cI (v:=cv a.n) ?_ Z Z c;exact lP
def GW(v:D)(labels:n_ ij)(n:e9 labels v)(V:j' labels<4294967296)(p:nJ ij.n labels)(f:g (.ret (cl 0)) y):b7 C cm qN [.d v,.fn mf [] []] y g:=by
 refine cA ?_;cases n with
 |nil=>
  refine ck.loop ?_;exact f
 |ps h=>
  rename_i u K k l;have j:=h.len;refine ck.iter (λi:Nat=>[(0,.d (.ps u K 8 k l)),(1,.fn mf [] []),(5,cl i)]) (λ_=>y) (λi=>j' labels-i) (λi=>1<=i) ?_ 1 (aiz _);intro i q;apply aZ<;>intro s
  ·have b:i<j' labels:=j▸eK s;have⟨x,r,e⟩:=h.get b;obtain⟨G,o,c⟩:=h.get (show i-1<j' labels by omega);have hlt:cS (labels[i-1]'om).n labels[i].n=A':=p.rN (aiu om) (aiu b) om;obtain⟨R,A,tn,S,z,rfl⟩:=e.dL;obtain⟨w,t,I,E,B,rfl⟩:=c.dL;have m:=yu (a:=i) q om;have a:=r;have d:=o;rw[<-cx]at a d;repeat first
    |refine bZ m ?_
    |refine bZ rfl ?_
    |refine cp _ d ?_
    |refine cp _ a ?_
    |refine cO ?_
    |refine BL _ c ?_
    |refine BL _ e ?_
    |refine BI _ _ ?_
   exact JQ
  exact f
def zj(h:fF cY T):T=[.int .i64 0,.str [],.str [],.cu,.cu]∨∃c e d,T=[.int .i64 0,.str [],.str [],.cu,.ps c e 7 d []]:=by
 cases h with
 |mk b a=>
  obtain rfl:=b.dB;rcases a.dB with rfl|⟨c,e,d,rfl⟩
  ·exact .inl Z
  exact .inr ⟨c,e,d,Z⟩
def vk(h:fF cY T)(a:g (.ret (cj A')) y):b7 C cm lf [.agg (T.map V.d)] y g:=by
 rcases zj h with rfl|⟨b,d,c,rfl⟩
 ·refine cI ?_ Z Z a;exact lP
 refine cI ?_ Z Z a;exact lP
variable{O:Ty}
def BM(h:fF O T)(e:∀c,g (.ret (cj c)) y):b7 C cm lf [.agg (T.map V.d)] y g:=by
 cases h with
 |mk b a=>
  rename_i k m n f d o l;refine b7.closed (P:=λi=>∃c,i=.ret (cj c)) ?_ Z (λi h=>by obtain⟨c,rfl⟩:=h;exact e c);refine cD ?_;cases b with
  |nil=>
   cases a with
   |nil=>
    exact xG
   |ps a=>
    exact xG
  |ps b j=>
   cases a with
   |nil=>
    exact xG
   |ps a=>
    exact xG
def SQ{q:FuncId}{a:n_ V}{o:cX}{r:dt->Prop}(n:b7 C cm q H [o] λc d=>d=[o]/\da c=A'/\r c)(i:Nat)(hσ:nth y i=q' o)(hc:gP 0 o=A')(b:hP 1 H=A')(k:a=jh (kU [i] (j' y)) H)(e:∀c,r c->g c y):
  b7 C cm q a y g:=by
 refine n.frame [i] Z sm (λj i' h=>?_) b k (λm f h _=>?_)
 ·exact JM
 obtain⟨rfl,l,p⟩:=h;rw[oc _ _ l];simp only[aiZ,List.map_nil,gq _ _ hc,merge,aiP];rw[rM hσ];exact e m p
def fm(c:cC)(b:Int)(a:Bool)(k:Int):V:=.agg [cv c,.d (.int .i64 b),cj a,.d (.int .i64 k)]
def aab:n_ tK:=[⟨cl 0,fm [98] 0 B' 0,0⟩,⟨cl 1,fm [120] 0 B' 0,1⟩,⟨cl 2,fm [98] 0 B' 0,2⟩,⟨cl 3,fm [110] 0 B' 0,3⟩,⟨cl 4,fm [109,110] (-1) B' 0,4⟩,
 ⟨cl 5,fm [] 0 A' 0,5⟩,⟨cl 6,fm [110] 0 B' 1,6⟩,⟨cl 7,fm [110] 0 B' 1,7⟩,⟨cl 8,fm [116,111] 0 A' 1,8⟩,⟨cl 9,fm [] 0 A' 1,9⟩,
 ⟨cl 10,fm [110] 0 B' 2,10⟩,⟨cl 11,fm [] 1 B' 1,11⟩,⟨cl 12,fm [] 1 B' 3,12⟩,⟨cl 13,fm [118] 1 A' 1,13⟩,⟨cl 14,fm [] 1 B' (-1),14⟩,
 ⟨cl 15,fm [110,120] 1 B' 3,15⟩,⟨cl 16,fm [110] 0 B' (-1),16⟩]
def Nj:cX:=.map aab 17
variable{M:Prop}
def fitAll (h:M:=by
 refine cD ?_;repeat' first|(change kE _ _ _;first|refine b9 (by with_reducible assumption) ?_|refine a7 (by with_reducible assumption) ?_|refine aZ (λ_=>?_) (λ_=>?_))|refine ei (args:=[.str _,.str _]) (x:=.bool A') rfl rfl ?_|refine ei (args:=[.str _,.str _]) (x:=.bool B') rfl rfl ?_|refine WY (by assumption) ?_|refine WZ (by assumption) ?_|refine ck.loop ?_|refine cA ?_
 all_goals exact a8 0 ⟨rfl,rfl⟩):M:=h
structure my (k:Nat) (labels:List ij):Prop where
 name:∀l∈labels,c8 l.n=A'
 srt:nJ ij.n labels
 var:∀l∈labels,if k=13 then c8 l.v=A' else l.v=[]
 ty:∀l∈labels,if k=8 then hO l.ty else l.ty=cY/\l.lM=B'
def Dd(a:n_ ij):Nat:=j' (a.filter ij.lM)
def EB:n_ cC:=[[43],[45],[42],[60],[61,61],[61,61,61],[43,43],[97,110,100],[111,114]]
def Ri:n_ cC:=[[110,111,116],[108,101,110,103,116,104]]
inductive gH:Ex->Prop
 |int {num:Int}:gH (.mk 0 [] [] [] num [] [] [])
 |text {x:cC}:gH (.mk 1 [] [] x 0 [] [] [])
 |bool {b:Bool}:gH (.mk 2 [] [] [] (if b then 1 else 0) [] [] [])
 |loc {n:cC} (hn:c8 n=A'):gH (.mk 3 [] n [] 0 [] [] [])
 |val {m n:cC} {types:List Ty} (hm:m=[]∨c8 m=A') (hn:c8 n=A') (ht:∀t∈types,hO t) (hv:m≠[]∨types≠[]):gH (.mk 4 m n [] 0 types [] [])
 |ZU {labels:List ij} {kids:List Ex} (hl:my 5 labels) (hk:j' kids=j' labels):gH (.mk 5 [] [] [] 0 [] labels kids)
 |acE {n:cC} {x:Ex} (hn:c8 n=A'):gH (.mk 6 [] n [] 0 [] [] [x])
 |inj {n:cC} {x:Ex} (hn:c8 n=A'):gH (.mk 7 [] n [] 0 [] [] [x])
 |func {labels:List ij} {kids:List Ex} (hl:my 8 labels) (hk:j' kids=Dd labels+1):gH (.mk 8 [] [] [] 0 [] labels kids)
 |call {labels:List ij} {kids:List Ex} (hl:my 9 labels) (hk:j' kids=j' labels+1):gH (.mk 9 [] [] [] 0 [] labels kids)
 |acF {n:cC} {x y:Ex} (hn:c8 n=A'):gH (.mk 10 [] n [] 0 [] [] [x,y])
 |asc {t:Ty} {x:Ex} (ht:hO t):gH (.mk 11 [] [] [] 0 [t] [] [x])
 |cond {t:Ty} {x y z:Ex} (ht:hO t):gH (.mk 12 [] [] [] 0 [t] [] [x,y,z])
 |mat {t:Ty} {labels:List ij} {kids:List Ex} (ht:hO t) (hl:my 13 labels) (hk:j' kids=j' labels+1):gH (.mk 13 [] [] [] 0 [t] labels kids)
 |lst {t:Ty} {kids:List Ex} (ht:hO t):gH (.mk 14 [] [] [] 0 [t] [] kids)
 |fold {n v:cC} {t:Ty} {x y z:Ex} (ht:hO t) (hn:c8 n=A') (hv:c8 v=A'):gH (.mk 15 [] n v 0 [t] [] [x,y,z])
 |one {n:cC} {x:Ex} (hn:n∈Ri):gH (.mk 16 [] n [] 0 [] [] [x])
 |two {n:cC} {x y:Ex} (hn:n∈EB):gH (.mk 16 [] n [] 0 [] [] [x,y])
def acG{s:cC}(h:c8 s=A'):(!decide (s=[]))=A':=by
 cases s with
 |nil=>cases h
 |cons a b=>rfl
def Yi(k:Nat)(m n x:cC)(num:Int)(ty a b:D):V:=.agg (qm k m n x num ty a b)
variable{F G:D}
def gn.one{x:Ex}(h:gn [x] F):∃b d c a,F=.ps b d 8 c [a]:=by
 cases h with|ps h=>cases h with|cons _ h=>cases h;exact⟨_,_,_,_,rfl⟩
def gn.two{x b:Ex}(h:gn [x,b] F):∃c e d a f,F=.ps c e 8 d [a,f]:=by
 exact Ku
def gn.three{x b d:Ex}(h:gn [x,b,d] F):∃e i f a j c,F=.ps e i 8 f [a,j,c]:=by
 exact J1
def e9.dB(h:e9 [] F):F=.cu∨∃c b a,F=.ps c b 8 a []:=by
 exact tw
def gn.dB(h:gn [] F):F=.cu∨∃c b a,F=.ps c b 8 a []:=by
 exact tw
def WY{n:cC}(h:n∈EB)(a:g (.ret (cl 2)) y):b7 C cm sH [cv n] y g:=by
 simp only[EB,aiH,List.not_mem_nil,or_false]at h;rcases h with rfl|rfl|rfl|rfl|rfl|rfl|rfl|rfl|rfl;all_goals refine cA ?_;exact a
def WZ{n:cC}(h:n∈Ri)(a:g (.ret (cl 1)) y):b7 C cm sH [cv n] y g:=by
 simp only[Ri,aiH,List.not_mem_nil,or_false]at h;rcases h with rfl|rfl;all_goals refine cA ?_;exact a
def im(k:Nat)(m n x:cC)(num:Int)(ty c b:D)(d:V):Prop:=b7 C cm Ig [Yi k m n x num ty c b,d] [] λe a=>a=[]/\e=.ret (cj A')
def fits_int(num:Int)(hl:e9 [] F)(hk:gn [] G):im 0 [] [] [] num .cu F G (fm [98] 0 B' 0):=by
 unfold im;exact tr
def W0(x:cC)(hl:e9 [] F)(hk:gn [] G):im 1 [] [] x 0 .cu F G (fm [120] 0 B' 0):=by
 unfold im;exact tr
def fits_bool(a:Bool)(hl:e9 [] F)(hk:gn [] G):im 2 [] [] [] (if a then 1 else 0) .cu F G (fm [98] 0 B' 0):=by
 cases a;all_goals
  unfold im;exact tr
def aac(n:cC)(hl:e9 [] F)(hk:gn [] G):im 3 [] n [] 0 .cu F G (fm [110] 0 B' 0):=by
 unfold im;exact tr
def aad(m n:cC)(ty:D)(hl:e9 [] F)(hk:gn [] G):im 4 m n [] 0 ty F G (fm [109,110] (-1) B' 0):=by
 unfold im;exact tr
def W1(n:cC){x:Ex}(hl:e9 [] F)(hk:gn [x] G):im 6 [] n [] 0 .cu F G (fm [110] 0 B' 1):=by
 exact Ck
def aae(n:cC){x:Ex}(hl:e9 [] F)(hk:gn [x] G):im 7 [] n [] 0 .cu F G (fm [110] 0 B' 1):=by
 exact Ck
inductive fN:Ex->Prop
 |mk {e:Ex} (h:gH e) (hk:∀x∈e.kids,fN x):fN e
def fZ(fn:Nat->PR Ex)(R:Rd)(b:Nat):Prop:=∀p x a,b<=p->p<j' R.ts->fn p=.ok x a->fN x/\dm x+p<=a/\p<a/\a<j' R.ts
def fZ.up{fn:Nat->PR Ex}{R:Rd}(h:fZ fn R u)(a:u<=N):fZ fn R N:=λp x c b=>h p x c (ai1 a b)
def psz(k:Nat)(p:dg):Nat:=dn p.val+if k=8 then cM p.ty else 0
def r8(k:Nat):n_ dg->Nat
 |[]=>0
 |p::a=>psz k p+r8 k a
variable{z:n_ dg}
def W2{k:Nat}{a:n_ dg}(h:z.Perm a):r8 k z=r8 k a:=by
 induction h with
 |nil=>rfl
 |cons x _ b=>simp only[r8,b]
 |swap x e z=>simp only[r8];omega
 |trans _ _ d c=>rw[d,c]
theorem BN(k:Nat)(a c:n_ dg):r8 k (a++c)=r8 k a+r8 k c:=by
 induction a with
 |nil=>simp[r8]
 |cons x a b=>simp only[aiK,r8,b];omega
structure vl (k:Nat) (l:List dg):Prop where
 name:∀x∈l,c8 x.n=A'
 var:∀x∈l,if k=13 then c8 x.v=A' else x.v=[]
 ty:∀x∈l,if k=8 then hO x.ty else x.ty=cY/\x.lM=B'
 val:∀x∈l,∀e∈x.val,fN e
 one:∀x∈l,j' x.val=if k=8/\x.lM=B' then 0 else 1
 nd:(l.map dg.n).Nodup
def vl.nil(k:Nat):vl k []:=⟨by simp,by simp,by simp,by simp,by simp,by simp⟩
theorem vl.snoc{k:Nat}{x:dg}(h:vl k z)(f:c8 x.n=A')(d:if k=13 then c8 x.v=A' else x.v=[])(j:if k=8 then hO x.ty else x.ty=cY/\x.lM=B')(e:∀n∈x.val,fN n) 
  (i:j' x.val=if k=8/\x.lM=B' then 0 else 1) (l:x.n ∉ z.map dg.n):vl k (z++[x]):=by
 have a:∀{c:dg->Prop},(∀b∈z,c b)->c x->∀b∈z++[x],c b:=λp o b m=>by
  all_goals grind [aiI.1]
 refine⟨a h.name f,a h.var d,a h.ty j,a h.val e,a h.one i,?_⟩;exact xJ
def vl.perm{k:Nat}{c:n_ dg}(h:vl k z)(b:c.Perm z):vl k c:=
 ⟨λx a=>h.name x (b.mem_iff.1 a),λx a=>h.var x (b.mem_iff.1 a),λx a=>h.ty x (b.mem_iff.1 a),λx a=>h.val x (b.mem_iff.1 a),λx a=>h.one x (b.mem_iff.1 a),((b.map dg.n).nodup_iff).2 h.nd⟩
def vl.aaf{k:Nat}(h:vl k z)(d:nJ dg.n z):my k (z.map dg.rO):=by
 refine⟨λx b=>?_,?_,λx b=>?_,λx b=>?_⟩
 ·obtain⟨c,a,rfl⟩:=aiU.1 b;exact h.name c a
 ·exact List.pairwise_map.2 d
 ·obtain⟨c,a,rfl⟩:=aiU.1 b;exact h.var c a
 obtain⟨c,a,rfl⟩:=aiU.1 b;exact h.ty c a
theorem W4{k:Nat}(h:∀x∈z,j' x.val=if k=8/\x.lM=B' then 0 else 1):j' (z.flatMap dg.val)=if k=8 then Dd (z.map dg.rO)else (j' z):=by
 induction z with
 |nil=>split<;>rfl
 |cons x z b=>
  have e:=h x sm;have c:=b λi d=>h i (by simp[d]);rw[List.flatMap_cons,aiB,e,c];by_cases a:k=8
  ·simp only[a,true_and,c_];show _=j' (List.filter ij.lM (x.rO::List.map dg.rO z));rw[List.filter_cons,Dd];have f:x.rO.lM=x.lM:=rfl;rw[f];cases x.lM<;>simp<;>omega
  grind [aiy]
def vl.size(k:Nat)(b:n_ dg):cQ (if k=8 then(b.map dg.rO).map ij.ty else [])+dn (b.flatMap dg.val)=r8 k b:=by
 induction b with
 |nil=>split<;>simp[cQ,dn,r8]
 |cons x b c=>
  rw[List.flatMap_cons,pA,r8,psz,<-c];by_cases a:k=8
  ·simp only[a,c_,aiZ,cQ];show cM x.ty+_+_=_;omega
  simp only[a,b_,cQ];omega
theorem zZ{k:Nat}{n:cC}{types:n_ Ty}{kids:n_ Ex}{l:n_ dg}:dm (j9 k n types kids l)=1+cQ types+dn kids+r8 k l:=by
 rw[j9,dm,gY,pA];have a:=vl.size k (cz dg.n l);rw[W2 (dU l)]at a;omega
def De{k:Nat}{n:cC}{types:n_ Ty}{kids:n_ Ex}(h:vl k z)(a:∀x∈kids,fN x):∀x∈(j9 k n types kids z).kids,fN x:=by
 intro x hx;rcases aiI.1 hx with hx|hx
 ·exact a x hx
 have⟨c,b,hx⟩:=List.mem_flatMap.1 hx;exact(h.perm (dU z)).val c b x hx
def Df{k:Nat}(h:vl k z):my k ((cz dg.n z).map dg.rO):=(h.perm (dU z)).aaf (ii h.nd)
theorem GX{k:Nat}(h:vl k z):j' ((cz dg.n z).flatMap dg.val)=if k=8 then Dd ((cz dg.n z).map dg.rO)else((cz dg.n z).map dg.rO).length:=by
 rw[W4 (h.perm (dU z)).one,aiW]
variable{A:cC}
def W6{d:Type}{step:d->Nat->PR d}{R:Rd}(x:R.Wf){I:d->Nat->Prop}(j:∀c p b,I c p->p<=b->I c b)(t:∀c p a b,u<=p->p<j' R.ts->I c p->step c p=.ok a b->I a b/\p<b/\b<j' R.ts):
  ∀(m:Nat) (c:d) (p:Nat) (a:d) (b:Nat),u<=p->p<j' R.ts->I c p->fh step R A m c p=.ok a b->I a b/\p<b/\b<j' R.ts:=by
 intro m;induction m with
 |zero=>intro c p a b _ _ _ h;cases h
 |succ m w=>
  intro c p a b o n r h;rw[fh]at h;cases f:step c p with
  |bad C K=>rw[f]at h;cases h
  |ok k q1=>
   rw[f]at h;dsimp only at h;have⟨i,D,l⟩:=t c p k q1 o n r f;split at h
   ·rename_i q;cases h;exact⟨j _ _ _ i (Nat.le_succ _),om,x.step l q⟩
   cases e:cw R [[44]] q1 with
   |bad C K=>rw[e]at h;cases h
   |ok S q2=>
    rw[e]at h;dsimp only at h;have E:=dI _ _ _ e;have⟨v,B,s⟩:=w k q2 a b om (eo x _ _ _ l e) (j _ _ _ i om) h;exact⟨v,om,s⟩
def yv{b:Type}{step:b->Nat->PR b}{R:Rd}(l:R.Wf){I:b->Nat->Prop}(d:∀c p N,I c p->p<=N->I c N)(k:∀c p a N,u<=p->p<j' R.ts->I c p->step c p=.ok a N->I a N/\p<N/\N<j' R.ts) 
  {c:b} {p:Nat} {a:b} (j:u<=p) (f:p<j' R.ts) (e:I c p) (h:ec step R A c p=.ok a N):I a N/\p<N/\N<j' R.ts:=by
 rw[ec]at h;split at h
 ·rename_i i;cases h;exact⟨d _ _ _ e (Nat.le_succ _),om,l.step f i⟩
 exact W6 l d k _ c p a N j f e h
theorem lI{R:Rd}(e:R.Wf){p a:Nat}{c:Unit}(b:p<j' R.ts)(h:cw R [A] p=.ok c a):a=p+1/\a<j' R.ts/\cG (R.tok p) A=A':=by
 have d:=eo e _ _ _ b h;all_goals grind [cw]
def ox{R:Rd}(j:R.Wf){ex:Nat->PR Ex}(he:fZ ex R u){s:cC}{p c:Nat}{x:Ex}(i:u<=p)(e:p<j' R.ts)(h:eV ex R s p=.ok x c):fN x/\dm x+p+1<=c/\p<c/\c<j' R.ts:=by
 rw[eV]at h;cases b:cw R [s] p with
 |bad n o=>rw[b]at h;cases h
 |ok k q1=>
  rw[b]at h;obtain⟨rfl,f,_⟩:=lI j e b;have⟨a,l,m,d⟩:=he _ x c om f h;exact tA
def rV{R:Rd}(e:R.Wf)(c:R.Nm){p d:Nat}{s:cC}(b:p<j' R.ts)(h:dp R p=.ok s d):c8 s=A'/\d=p+1/\d<j' R.ts:=by
 rw[dp]at h;split at h
 ·cases h
 rename_i a;have a:(R.tok p).kind=1:=by simpa using a
 cases h;exact⟨(c p b).1 a,Z,e.go p _ (cn b) om⟩
def Dg{R:Rd}(f:R.Wf)(d:R.Nm){p c:Nat}{s:cC}(b:p<j' R.ts)(h:eg R z p=.ok s c):c8 s=A'/\s ∉ z.map dg.n/\c=p+1/\c<j' R.ts:=by
 rw[eg]at h;split at h
 ·cases h
 rename_i a;have a:(R.tok p).kind=1:=by simpa using a
 split at h
 ·cases h
 rename_i e;cases h;exact⟨(d p b).1 a,e,Z,f.go p _ (cn b) om⟩
def PI(k a:Nat)(b:n_ dg)(p:Nat):Prop:=vl k b/\r8 k b+a<=p
def PI.mono{k a:Nat}(d:n_ dg)(p c:Nat)(h:PI k a d p)(b:p<=c):PI k a d c:=⟨h.1,ai1 h.2 b⟩
theorem SS{R:Rd}(t:R.Wf)(q:R.Nm){ex:Nat->PR Ex}{i k f:Nat}(e:k≠8)(b:k≠13)(he:fZ ex R i)(m:n_ dg)(p:Nat)(c:n_ dg)(j:Nat)(v:i<=p)(l:p<j' R.ts)(d:PI k f m p)(h:gx ex R m p=.ok c j):PI k f c j/\p<j/\j<j' R.ts:=by
 rw[gx]at h;cases a:eg R m p with
 |bad C D=>rw[a]at h;cases h
 |ok s q1=>
  rw[a]at h;dsimp only at h;obtain⟨f1,f2,rfl,f4⟩:=Dg t q l a;obtain⟨x,o,rfl⟩:=fR h;have⟨r,B,w,n⟩:=ox t he om f4 o;refine⟨⟨d.1.snoc f1 (by rw[W' b]) (by rw[W' e];exact⟨rfl,rfl⟩) (by simpa using r) (by simp[e]) f2,?_⟩,om,n⟩;have:=d.2
  grind [BN,r8,psz,dn]
theorem SU{R:Rd}(q:R.Wf)(e:R.Nm){ex:Nat->PR Ex}(he:fZ ex R u)(j:n_ dg)(p:Nat)(c:n_ dg)(f:Nat)(t:u<=p)(i:p<j' R.ts)(d:PI 13 N j p)(h:fX ex R j p=.ok c f):PI 13 N c f/\p<f/\f<j' R.ts:=by
 rw[fX]at h;cases b:eg R j p with
 |bad r B=>rw[b]at h;cases h
 |ok s q1=>
  rw[b]at h;dsimp only at h;obtain⟨f1,f2,rfl,f4⟩:=Dg q e i b;cases a:dp R (p+1)with
  |bad r B=>rw[a]at h;cases h
  |ok C q2=>
   rw[a]at h;dsimp only at h;obtain⟨o,rfl,k⟩:=rV q e f4 a;obtain⟨x,m,rfl⟩:=fR h;have⟨n,w,v,l⟩:=ox q he om k m;refine⟨⟨d.1.snoc f1 (by rw[X' rfl];exact o) (by rw[W' dc];exact⟨rfl,rfl⟩) (by simpa using n) sm f2,?_⟩,om,l⟩;have:=d.2
   grind [BN,r8,psz,dn]
theorem SV{R:Rd}(r:R.Wf)(o:R.Nm){ty:Nat->PR Ty}{ex:Nat->PR Ex}(ht:Good ty R u)(he:fZ ex R u)(j:n_ dg)(p:Nat)(e:n_ dg)(f:Nat)(B:u<=p)(i:p<j' R.ts)(b:PI 8 N j p)(h:eA ty ex R j p=.ok e f):PI 8 N e f/\p<f/\f<j' R.ts:=by
 rw[eA]at h;cases c:eg R j p with
 |bad t w=>rw[c]at h;cases h
 |ok s q1=>
  rw[c]at h;dsimp only at h;obtain⟨f1,f2,rfl,f4⟩:=Dg r o i c;cases a:cw R [[58]] (p+1)with
  |bad t w=>rw[a]at h;cases h
  |ok I q2=>
   rw[a]at h;dsimp only at h;obtain⟨rfl,k,_⟩:=lI r f4 a;cases d:ty (p+1+1)with
   |bad t w=>rw[d]at h;cases h
   |ok E q3=>
    rw[d]at h;dsimp only at h;have⟨t1,t2,t3,t4⟩:=ht _ E q3 om k d;have v:=b.2;split at h
    ·rename_i l;obtain⟨x,n,rfl⟩:=fR h;have⟨q,D,C,m⟩:=he _ x f om (r.step t4 l) n;refine⟨⟨b.1.snoc f1 (by rw[W' dc]) (by rw[X' rfl];exact t1) (by simpa using q) sm f2,?_⟩,om,m⟩
     grind [BN,r8,psz,dn]
    cases h;refine⟨⟨b.1.snoc f1 (by rw[W' dc]) (by rw[X' rfl];exact t1) sm sm f2,?_⟩,om,t4⟩
    grind [BN,r8,psz,dn]
def D1{R:Rd}(t:R.Wf)(s:R.Nm){ex:Nat->PR Ex}{e k:Nat}(d:k≠8)(b:k≠13)(he:fZ ex R e){kids:n_ Ex}{p f:Nat}{x:Ex}(l:∀x∈kids,fN x)(m:e<=p)(j:p<j' R.ts) 
  (r:∀i,my k i->∀c:n_ Ex,j' c=j' i->gH (.mk k [] [] [] 0 [] i (kids++c))) (h:iY ex R A k kids p=.ok x f):fN x/\dm x+p<=1+dn kids+f/\p<f/\f<j' R.ts:=by
 rw[iY]at h;obtain⟨i,n,rfl⟩:=fR h;obtain⟨⟨a,v⟩,o,q⟩:=yv (I:=PI k p) t PI.mono (SS t s d b he) m j ⟨vl.nil k,by rw[r8];omega⟩ n;refine⟨.mk ?_ (De a l),?_,o,q⟩
 ·exact r _ (Df a) _ (by rw[GX a,W' d])
 rw[zZ,cQ];omega
variable{X:Tok}
def jG(h:cG X A=A'):X.text=A:=by
 simp only[cG,aiL,j_]at h;exact h.1
theorem pB{k:Nat}{m n x:cC}{num:Int}:dm (.mk k m n x num [] [] [])=1:=by
 grind [dm,dn,cQ]
def fN.leaf{k:Nat}{m n x:cC}{num:Int}{types:n_ Ty}(h:gH (.mk k m n x num types [] [])):fN (.mk k m n x num types [] []):=.mk h (λx a=>by cases a)
variable{Q:Ex}
def fN.one{k:Nat}{m n x:cC}{num:Int}{types:n_ Ty}{labels:n_ ij}(h:gH (.mk k m n x num types labels [Q]))(a:fN Q):fN (.mk k m n x num types labels [Q]):=.mk h (λc b=>by
 obtain rfl:=aiE.1 b;exact a)
def fN.two{k:Nat}{m n x:cC}{num:Int}{types:n_ Ty}{labels:n_ ij}{c:Ex}(h:gH (.mk k m n x num types labels [Q,c]))(b:fN Q)(d:fN c):fN (.mk k m n x num types labels [Q,c]):=.mk h (λe a=>by
 rcases aiH.1 a with rfl|a
 ·exact b
 obtain rfl:=aiE.1 a;exact d)
def fN.three{k:Nat}{m n x:cC}{num:Int}{types:n_ Ty}{labels:n_ ij}{c d:Ex}(h:gH (.mk k m n x num types labels [Q,c,d]))(b:fN Q)(e:fN c)(f:fN d):fN (.mk k m n x num types labels [Q,c,d]):=.mk h (λi a=>by
 rcases aiH.1 a with rfl|a
 ·exact b
 rcases aiH.1 a with rfl|a
 ·exact e
 obtain rfl:=aiE.1 a;exact f)
theorem iR{k:Nat}{m n x:cC}{num:Int}{types:n_ Ty}{kids:n_ Ex}:dm (.mk k m n x num types [] kids)=1+cQ types+dn kids:=by
 rw[dm];split<;>simp
def Ls{R:Rd}(f:R.Wf){a p d:Nat}{x:Ex}(e:p<j' R.ts)(h:qS a R p=.ok x d):fN x/\dm x+p<=d/\p<d/\d<j' R.ts:=by
 rw[qS]at h;split at h
 ·cases h
 rename_i b;have b:(R.tok p).kind=3:=by simpa using b
 have c:=f.go p _ (cn e) om;split at h
 ·split at h
  ·cases h
  cases h;exact⟨.leaf .int,by rw[pB];omega,om,c⟩
 cases h
variable{P:n_ cC}
theorem P6(h:o5 X P=q' A):A∈P/\cG X A=A':=by
 grind [ui,aiv]
theorem W7{R:Rd}(D:R.Wf){fn:Nat->PR Ex}(q:∀n∈P,n∈EB)(he:fZ fn R u):∀(l:Nat) (x:Ex) (p a:Nat) (c:Ex) (b:Nat),u<=p->p<j' R.ts->fN x->dm x+a<=p->a<p->vg fn P R l x p=.ok c b->fN c/\dm c+a<=b/\a<b/\b<j' R.ts:=by
 intro l;induction l with
 |zero=>intro x p a c b _ _ _ _ _ h;cases h
 |succ l s=>
  intro x p a c b B e j r m h;rw[vg]at h;split at h
  ·cases h;exact⟨j,r,m,e⟩
  rename_i n i;have⟨f,t⟩:=P6 i;have d:=D.step e t;split at h
  ·cases h
  rename_i v k o;have⟨w,E,I,C⟩:=he (p+1) v k om d o;refine s _ k a c b om C (.two (.two (q n f)) j w) ?_ om h
  grind [iR,cQ,dn]
def yw{R:Rd}(o:R.Wf){fn:Nat->PR Ex}(b:∀n∈P,n∈EB)(he:fZ fn R u):fZ (og fn P R) R u:=by
 intro p i j d c h;rw[og]at h;split at h
 ·cases h
 rename_i x a e;have⟨m,k,l,f⟩:=he p x a d c e;exact W7 o b he _ x a p i j om f m k l h
theorem D2{ty:Nat->PR Ty}{R:Rd}:∀(d:Nat) (a:n_ Ty) (p:Nat) (e:n_ Ty) (f:Nat),eO ty R d a p=.ok e f->e≠[]:=by
 intro d;induction d with
 |zero=>intro a p e f h;cases h
 |succ d i=>
  intro a p e f h;rw[eO]at h;cases b:ty p with
  |bad j k=>rw[b]at h;cases h
  |ok m q1=>
   rw[b]at h;dsimp only at h;split at h
   ·exact i _ _ _ _ h
   cases c:cw R [[93]] q1 with
   |bad j k=>rw[c]at h;cases h
   |ok l q2=>rw[c]at h;cases h;simp
theorem P7{R:Rd}(D:R.Wf)(d:R.Nm){ty:Nat->PR Ty}{s:cC}{p b:Nat}{x:Ex}(ht:Good ty R p)(c:c8 s=A')(t:p<j' R.ts)(h:iA ty R s p=.ok x b):fN x/\dm x+p<=b+1/\p<=b/\b<j' R.ts:=by
 have o:s≠[]:=λS=>by rw[S]at c;cases c
 rw[iA]at h;have e:∀(k:Nat) (m n:cC) (q1:Nat),((k=4/\m=s)∨(k=3/\m=[]))->c8 n=A'->p<=q1->q1<j' R.ts->(if cG (R.tok q1) [91]=A' then(fS ty R q1).map λE=>Ex.mk 4 m n [] 0 E [] []else .ok (.mk k m n [] 0 [] [] []) q1)=.ok x b->fN x/\dm x+p<=b+1/\p<=b/\b<j' R.ts:=by
  intro k m n q1 q j r f h;have d:m=[]∨c8 m=A':=by rcases q with⟨_,rfl⟩|⟨_,rfl⟩;exact .inr c;exact .inl rfl
  split at h
  ·rename_i I;obtain⟨E,w,rfl⟩:=fR h;have⟨V,A,y⟩:=zW D (λC u b K=>ht C u b om) f w;have i:E≠[]:=by
    grind [fS,D2]
   refine⟨.leaf (.val d j V (.inr i)),?_,om,y⟩;rw[iR,dn];omega
  cases h;rcases q with⟨rfl,rfl⟩|⟨rfl,rfl⟩
  ·exact⟨.leaf (.val d j sm (.inl o)),by rw[pB];omega,r,f⟩
  exact⟨.leaf (.loc j),by rw[pB];omega,r,f⟩
 by_cases a:cG (R.tok p) [58,58]=A'
 ·rw[X' a]at h;cases l:dp R (p+1)with
  |bad z S=>rw[l]at h;cases h
  |ok g q1=>
   rw[l]at h;obtain⟨B,rfl,v⟩:=rV D d (D.step t a) l;exact e 4 s g _ (.inl ⟨Z,Z⟩) B om v h
 rw[W' a]at h;exact e 3 [] s p (.inr ⟨Z,Z⟩) c (aiz _) t h
theorem SW{R:Rd}{ex:Nat->PR Ex}(he:fZ ex R u)(f:n_ Ex)(p:Nat)(a:n_ Ex)(b:Nat)(e:u<=p)(d:p<j' R.ts)(k:(∀x∈f,fN x)/\dn f+N<=p)(h:kh ex f p=.ok a b):((∀x∈a,fN x)/\dn a+N<=b)/\p<b/\b<j' R.ts:=by
 rw[kh]at h;obtain⟨x,j,rfl⟩:=fR h;have⟨l,m,i,c⟩:=he p x b e d j;refine⟨⟨λo n=>?_,?_⟩,i,c⟩
 ·all_goals grind [aiI.1,aiE.1]
 grind [pA,dn]
theorem SX{R:Rd}(i:R.Wf)(o:R.Nm){ty:Nat->PR Ty}{ex:Nat->PR Ex}(ht:Good ty R u)(he:fZ ex R (u+1)):fZ (fG ty ex R) R u:=by
 intro p x C G f h;have he:fZ ex R (p+1):=he.up om;have ht:Good ty R p:=λn r C B=>ht n r C om;rw[fG]at h;split at h
 ·exact Ls i f h
 split at h
 ·rename_i b;cases h;exact⟨.leaf .text,by rw[pB];omega,om,i.go p _ (cn f) om⟩
 split at h
 ·rename_i b;have⟨a,w,y,d⟩:=P7 i o (λn r C B=>ht n r C om) ((o p f).1 b) (i.go p _ (cn f) om) h;exact tA
 split at h
 ·rename_i b;cases h;exact⟨.leaf (.bool (b:=A')),by rw[pB];omega,om,i.step f b⟩
 split at h
 ·rename_i b;cases h;exact⟨.leaf (.bool (b:=B')),by rw[pB];omega,om,i.step f b⟩
 split at h
 ·rename_i b;have⟨a,w,y,d⟩:=D1 i o (k:=5) (kids:=[]) dc dc he sm (aiz _) (i.step f b) (λJ q F v=>.ZU q v) h
  grind [dn]
 split at h
 ·rename_i b;cases e:dp R (p+1)with
  |bad t D=>rw[e]at h;cases h
  |ok s q1=>
   rw[e]at h;dsimp only at h;obtain⟨g,rfl,E⟩:=rV i o (i.step f b) e;cases c:eV ex R [58] (p+1+1)with
   |bad t D=>rw[c]at h;cases h
   |ok z q2=>
    rw[c]at h;dsimp only at h;have⟨a,w,y,d⟩:=ox i he om E c;obtain⟨V,l,rfl⟩:=fR h;obtain⟨rfl,j,_⟩:=lI i d l;exact⟨.one (.inj g) a,by rw[iR];simp only[cQ,dn];omega,om,j⟩
 split at h
 ·rename_i b;cases e:ty (p+1)with
  |bad t D=>rw[e]at h;cases h
  |ok r q1=>
   rw[e]at h;dsimp only at h;have⟨t1,t2,t3,t4⟩:=ht (p+1) r q1 om (i.step f b) e;cases c:cw R [[124]] q1 with
   |bad t D=>rw[c]at h;cases h
   |ok V q2=>
    rw[c]at h;dsimp only at h;obtain⟨rfl,j,_⟩:=lI i t4 c;obtain⟨J,q,rfl⟩:=fR h;obtain⟨⟨S,A⟩,H,K⟩:=yv (I:=λa n=>(∀x∈a,fN x)/\dn a+(q1+1)<=n) i (λa p C h I=>⟨h.1,ai1 h.2 I⟩) (SW he) om j ⟨by simp,by rw[dn];omega⟩ q;exact⟨.mk (.lst t1) S,by rw[iR];simp only[cQ];omega,om,K⟩
 split at h
 ·rename_i b;cases e:ex (p+1)with
  |bad t D=>rw[e]at h;cases h
  |ok z q1=>
   rw[e]at h;dsimp only at h;have⟨a,w,y,d⟩:=he (p+1) z q1 om (i.step f b) e;by_cases m:cG (R.tok q1) [58]=A'
   ·rw[X' m]at h;cases c:ty (q1+1)with
    |bad t D=>rw[c]at h;cases h
    |ok r q2=>
     rw[c]at h;dsimp only[PR.map]at h;have⟨t1,t2,t3,t4⟩:=ht (q1+1) r q2 om (i.step d m) c;obtain⟨V,l,rfl⟩:=fR h;obtain⟨rfl,j,_⟩:=lI i t4 l;exact⟨.one (.asc t1) a,by rw[iR];simp only[cQ,dn];omega,om,j⟩
   rw[W' m]at h;dsimp only at h;obtain⟨V,l,rfl⟩:=fR h;obtain⟨rfl,j,_⟩:=lI i d l;exact⟨a,om,om,j⟩
 cases h
theorem SY{R:Rd}(o:R.Wf)(m:R.Nm){ex:Nat->PR Ex}(he:fZ ex R u):∀(n:Nat) (x:Ex) (p a:Nat) (f:Ex) (e:Nat),u<=p->p<j' R.ts->fN x->dm x+a<=p->a<p->lg ex R n x p=.ok f e->fN f/\dm f+a<=e/\a<e/\e<j' R.ts:=by
 intro n;induction n with
 |zero=>intro x p a f e _ _ _ _ _ h;cases h
 |succ n w=>
  intro x p a f e E c d v q h;rw[lg]at h;split at h
  ·rename_i l;cases b:dp R (p+1)with
   |bad C K=>rw[b]at h;cases h
   |ok s q1=>
    rw[b]at h;dsimp only at h;obtain⟨B,rfl,r⟩:=rV o m (o.step c l) b;exact w _ _ a f e om r (.one (.acE B) d) (by rw[iR];simp only[cQ,dn];omega) om h
  split at h
  ·rename_i j;cases b:iY ex R [41] 9 [x] (p+1)with
   |bad C K=>rw[b]at h;cases h
   |ok S q1=>
    rw[b]at h;dsimp only at h;obtain⟨V,I,y,g⟩:=D1 o m (k:=9) (kids:=[x]) dc dc he (by simpa using d) om (o.step c j) (λz t D i=>.call t (by rw[aiB,i,aiO];omega)) b;simp only[dn]at I
    grind
  cases h;exact⟨d,v,q,c⟩
def SZ{R:Rd}(f:R.Wf)(a:R.Nm){ty:Nat->PR Ty}{ex:Nat->PR Ex}(ht:Good ty R u)(he:fZ ex R (u+1)):fZ (gK ty ex R) R u:=by
 intro p j k d c h;rw[gK]at h;split at h
 ·cases h
 rename_i x b e;have⟨n,l,m,i⟩:=SX f a ht he p x b d c e;exact SY f a he _ x b p j k om i n l m h
def W8{R:Rd}(w:R.Wf){ty:Nat->PR Ty}{ex:Nat->PR Ex}(f:fZ (gK ty ex R) R u):∀e,fZ (ql ty ex R e) R u:=by
 intro e;induction e with
 |zero=>intro p j q _ _ h;cases h
 |succ e ih=>
  intro p j q i h2 h;rw[ql]at h;split at h
  ·exact Jo
  split at h
  ·rename_i hk;have⟨a,b,c,d⟩:=Ls w (w.step h2 hk) h;exact tA
  exact f p j q i h2 h
theorem W9{R:Rd}(w:R.Wf){ty:Nat->PR Ty}{ex:Nat->PR Ex}(f:fZ (mv ty ex R) R u):∀i,fZ (oh ty ex R i) R u:=by
 intro i;induction i with
 |zero=>intro p t q _ _ h;cases h
 |succ i ih=>
  intro p t q k h2 h;rw[oh]at h;split at h
  ·exact Jo
  cases e:mv ty ex R p with
  |bad D E=>rw[e]at h;cases h
  |ok x q1=>
   rw[e]at h;dsimp only at h;have⟨a,b,c,d⟩:=f p x q1 k h2 e;split at h
   ·cases h;exact⟨a,b,c,d⟩
   rename_i s n;have⟨r,m⟩:=P6 n;obtain⟨v,o,rfl⟩:=fR h;have⟨j,C,B,l⟩:=f (q1+1) v q om (w.step d m) o;refine⟨.two (.two ?_) a j,by rw[iR];simp only[cQ,dn];omega,om,l⟩
   grind [EB]
def aag{R:Rd}(b:R.Wf)(c:R.Nm){ty:Nat->PR Ty}{ex:Nat->PR Ex}(ht:Good ty R u)(he:fZ ex R (u+1)):fZ (Wx ty ex R) R u:=by
 have f:=W8 b (SZ b c ht he) (j' R.ts);have d:fZ (agi ty ex R) R u:=yw b (λj a=>by simp at a;subst a;simp[EB]) f;have i:fZ (mv ty ex R) R u:=yw b (λj a=>by simp at a;rcases a with rfl|rfl|rfl<;>simp[EB]) d;have e:=W9 b i (j' R.ts);have h:fZ (agj ty ex R) R u:=yw b (λj a=>by simp at a;subst a;simp[EB]) e;exact yw b (λj a=>by simp at a;subst a;simp[EB]) h
def tc{R:Rd}(l:R.Wf){ty:Nat->PR Ty}{p d:Nat}(ht:Good ty R p)(e:p<j' R.ts)(h:dE ty R p=.ok O d):hO O/\cM O+p<=d/\p<d/\d<j' R.ts:=by
 rw[dE]at h;cases a:cw R [[91]] p with
 |bad j k=>rw[a]at h;cases h
 |ok n q1=>
  rw[a]at h;dsimp only at h;obtain⟨rfl,f,_⟩:=lI l e a;cases c:ty (p+1)with
  |bad j k=>rw[c]at h;cases h
  |ok t1 q2=>
   rw[c]at h;dsimp only at h;have⟨o,q,r,m⟩:=ht (p+1) t1 q2 om f c;cases b:cw R [[93]] q2 with
   |bad j k=>rw[b]at h;cases h
   |ok n q3=>
    rw[b]at h;cases h;obtain⟨rfl,i,_⟩:=lI l m b;exact⟨o,om,om,i⟩
def Xa{R:Rd}(l:R.Wf)(j:R.Nm){ex:Nat->PR Ex}(he:fZ ex R u):fZ (vW ex R) R u:=by
 intro p B D r c h;rw[vW]at h;cases b:dp R p with
 |bad q v=>rw[b]at h;cases h
 |ok s q1=>
  rw[b]at h;dsimp only at h;obtain⟨k,rfl,d⟩:=rV l j c b;cases a:eV ex R [61] (p+1)with
  |bad q v=>rw[a]at h;cases h
  |ok x q2=>
   rw[a]at h;dsimp only at h;have⟨n,C,E,t⟩:=ox l he om d a;obtain⟨w,f,rfl⟩:=fR h;have⟨e,o,m,i⟩:=ox l he om t f;exact⟨.two (.acF k) n e,by rw[iR];simp only[cQ,dn];omega,om,i⟩
def S0{R:Rd}(k:R.Wf){ty:Nat->PR Ty}{ex:Nat->PR Ex}(ht:Good ty R u)(he:fZ ex R u):fZ (ol ty ex R) R u:=by
 intro p I n t d h;rw[ol]at h;cases b:dE ty R p with
 |bad l q=>rw[b]at h;cases h
 |ok o q1=>
  rw[b]at h;dsimp only at h;have⟨t1,t2,t3,t4⟩:=tc k (λj o n m=>ht j o n om) d b;cases a:ex q1 with
  |bad l q=>rw[a]at h;cases h
  |ok x q2=>
   rw[a]at h;dsimp only at h;have⟨r,K,S,v⟩:=he q1 x q2 om t4 a;cases c:eV ex R [116,104,101,110] q2 with
   |bad l q=>rw[c]at h;cases h
   |ok D q3=>
    rw[c]at h;dsimp only at h;have⟨i,C,w,d2⟩:=ox k he om v c;obtain⟨E,f,rfl⟩:=fR h;have⟨e,s,B,d3⟩:=ox k he om d2 f;exact⟨.three (.cond t1) r i e,by rw[iR];simp only[cQ,dn];omega,om,d3⟩
theorem P8{R:Rd}(e:R.Wf)(l:R.Nm){ty:Nat->PR Ty}{ex:Nat->PR Ex}(ht:Good ty R u)(he:fZ ex R u):fZ (lD ty ex R) R u:=by
 intro p D q w f h;rw[lD]at h;cases b:dE ty R p with
 |bad n s=>rw[b]at h;cases h
 |ok r q1=>
  rw[b]at h;dsimp only at h;have⟨t1,t2,t3,t4⟩:=tc e (λm r q o=>ht m r q om) f b;cases a:ex q1 with
  |bad n s=>rw[a]at h;cases h
  |ok x q2=>
   rw[a]at h;dsimp only at h;have⟨v,E,S,B⟩:=he q1 x q2 om t4 a;cases c:cw R [[123]] q2 with
   |bad n s=>rw[c]at h;cases h
   |ok K q3=>
    rw[c]at h;dsimp only at h;obtain⟨rfl,i,_⟩:=lI e B c;obtain⟨V,j,rfl⟩:=fR h;obtain⟨⟨d,t⟩,C,k⟩:=yv (I:=PI 13 (q2+1)) e PI.mono (SU e l he) om i ⟨vl.nil 13,by rw[r8];omega⟩ j;refine⟨.mk (.mat t1 (Df d) ?_) (De d (by simpa using v)),?_,om,k⟩
    ·grind [aiB,GX,aiO]
    grind [zZ,cQ,dn]
def S1{R:Rd}(i:R.Wf)(k:R.Nm){ty:Nat->PR Ty}{ex:Nat->PR Ex}(ht:Good ty R u)(he:fZ ex R u):fZ (lE ty ex R) R u:=by
 intro p M I y m h;rw[lE]at h;cases d:dE ty R p with
 |bad j l=>rw[d]at h;cases h
 |ok K q1=>
  rw[d]at h;dsimp only at h;have⟨t1,t2,t3,t4⟩:=tc i (λD K I E=>ht D K I om) m d;cases c:dp R q1 with
  |bad j l=>rw[c]at h;cases h
  |ok s q2=>
   rw[c]at h;dsimp only at h;obtain⟨C,rfl,o⟩:=rV i k t4 c;cases e:cw R [[44]] (q1+1)with
   |bad j l=>rw[e]at h;cases h
   |ok O q3=>
    rw[e]at h;dsimp only at h;obtain⟨rfl,q,_⟩:=lI i o e;cases f:dp R (q1+1+1)with
    |bad j l=>rw[f]at h;cases h
    |ok L q4=>
     rw[f]at h;dsimp only at h;obtain⟨w,rfl,n⟩:=rV i k q f;cases a:eV ex R [105,110] (q1+1+1+1)with
     |bad j l=>rw[a]at h;cases h
     |ok x t=>
      rw[a]at h;dsimp only at h;have⟨S,N,P,z⟩:=ox i he om n a;cases b:eV ex R [102,114,111,109] t with
      |bad j l=>rw[b]at h;cases h
      |ok H g=>
       rw[b]at h;dsimp only at h;have⟨B,G,A,d2⟩:=ox i he om z b;obtain⟨J,v,rfl⟩:=fR h;have⟨r,V,F,d3⟩:=ox i he om d2 v;exact⟨.three (.fold t1 C w) S B r,by rw[iR];simp only[cQ,dn];omega,om,d3⟩
theorem S2{R:Rd}(e:R.Wf)(m:R.Nm){ty:Nat->PR Ty}{ex:Nat->PR Ex}(ht:Good ty R u)(he:fZ ex R u):fZ (funcF ty ex R) R u:=by
 intro p I C v f h;rw[funcF]at h;cases d:cw R [[40]] p with
 |bad t D=>rw[d]at h;cases h
 |ok V q1=>
  rw[d]at h;dsimp only at h;obtain⟨rfl,i,_⟩:=lI e f d;cases b:ec (eA ty ex R) R [41] [] (p+1)with
  |bad t D=>rw[b]at h;cases h
  |ok q q2=>
   rw[b]at h;dsimp only at h;obtain⟨⟨c,s⟩,B,j⟩:=yv (I:=PI 8 (p+1)) e PI.mono (SV e m ht he) om i ⟨vl.nil 8,by rw[r8];omega⟩ b;obtain⟨x,l,rfl⟩:=fR h;have⟨E,K,g,w⟩:=ox e he om j l;have o:=zZ (k:=8) (n:=[]) (types:=[]) (kids:=[]) (l:=q);rw[j9,dm]at o;refine⟨.mk (.func (Df c) ?_) ?_,?_,om,w⟩
   ·rw[aiM,aiB,GX c,X' rfl,aiO]
   ·intro r a;rcases aiI.1 a with a|a
    ·exact De (n:=[]) (types:=[]) (kids:=[]) c sm r a
    grind [aiE.1]
   show dm (.mk 8 [] [] [] 0 [] _ (_++[x]))+p<=C
   grind [dm,pA,dn,cQ]
def GY{R:Rd}(l:R.Wf)(e:R.Nm):∀(o i:Nat),fZ (By R o) R i:=by
 intro o;induction o with
 |zero=>intro i p m k _ _ h;cases h
 |succ o f=>
  intro i p m k v n h;have ht:∀i,Good (iM R (j' R.ts)) R i:=λi p t k _=>um l e (j' R.ts) p t k (aiw _);have j:∀{fn:Nat->PR Ex},fZ fn R 0->p+1<j' R.ts->fn (p+1)=.ok m k->fN m/\dm m+p<=k/\p<k/\k<j' R.ts:=λr q s=>by
   have⟨a,w,x,d⟩:=r (p+1) m k (aiw _) q s;exact tA
  rw[By,DY]at h;have c:(R.tok p).kind=5->p+1<j' R.ts:=λb=>l.go p _ (cn n) om;split at h
  ·rename_i b;exact j (Xa l e (f 0)) (c b.1) h
  split at h
  ·rename_i b;exact j (S0 l (ht 0) (f 0)) (c b.1) h
  split at h
  ·rename_i b;exact j (P8 l e (ht 0) (f 0)) (c b.1) h
  split at h
  ·rename_i b;exact j (S1 l e (ht 0) (f 0)) (c b.1) h
  split at h
  ·rename_i b;exact j (S2 l e (ht 0) (f 0)) (c b.1) h
  exact aag l e (ht 0) (f 1) p m k (aiw _) n h
def qU(a:UInt8)(hk:g (.ret (cj (jR a))) y):b7 C cm wX [io a] y g:=by
 exact Jq
def rW(a:UInt8)(hk:g (.ret (cj (gV a))) y):b7 C cm uX [io a] y g:=by
 exact Jn
def kB(a:UInt8)(hk:g (.ret (cj (isDigit a))) y):b7 C cm wW [io a] y g:=by
 exact Jp
def xq(a:UInt8)(hk:g (.ret (cj (isWord a))) y):b7 C cm yS [io a] y g:=by
 refine cA ?_;refine qU a ?_;apply aZ<;>intro h1
 ·exact KW
 refine a7 h1 (rW a ?_);refine a7 h1 ?_;apply aZ<;>intro h2
 ·exact KJ
 refine a7 h2 (kB a ?_);exact Jf
def EC(a:UInt8):Int:=match qk a with
 |some n=>ait n
 |none=> -1
def vm(e:UInt8)(c:g (.ret (.d (.int .i64 (EC e)))) y):b7 C cm zM [io e] y g:=by
 refine cA ?_;refine kB e ?_;apply aZ<;>intro h
 ·refine nO ?_ c;have i:=Bn h;simp only[EC,qk,h,X'];rw[Gq (by simp only[ais];omega) (by simp only[ais];omega),wrap64 (by simp only[ais];omega) (by simp only[ais];omega)];simp only[ais];omega
 apply aZ<;>intro d
 ·have b:97<=e.toNat:=ML (a:=97) d;repeat refine b9 d ?_
  apply aZ<;>intro f
  ·have a:e.toNat<=102:=ML (b:=102) f;refine nO ?_ c;simp only[EC,qk,h,a_ b,a_ a,Bool.and_self,X'];rw[Gq (n:=ait e.toNat-97) (by simp only[ais];omega) (by simp only[ais];omega)];rw[wrap64 (n:=ait e.toNat-97) (by simp only[ais];omega) (by simp only[ais];omega)];rw[wrap64 (by simp only[ais];omega) (by simp only[ais];omega)];simp only[ais,aiS,b_];omega
  have a:¬e.toNat<=102:=Nat.not_le_of_lt (Fs (b:=102) f);refine nO ?_ c;simp only[EC,qk,h,Z' a,Bool.and_false,aiS,b_]
 have b:¬97<=e.toNat:=Nat.not_le_of_lt (Fs (a:=97) d);repeat refine a7 d ?_
 refine nO ?_ c;simp only[EC,qk,h,Z' b,Bool.false_and,aiS,b_]
def BO(s:cC)(a:j' s<4294967296)(hk:g (.ret (cj (s.all isWord))) y):b7 C cm w3 [cv s] y g:=by
 refine cA ?_;refine ck.iter (λi:Nat=>[(3,cl i),(0,cv s)]) (λ_=>y) (λi=>j' s-i) (λi=>i<=j' s/\(s.take i).all isWord=A') ?_ 0 ⟨om,by simp⟩;rintro i ⟨b,hp⟩;apply aZ<;>intro h
 ·have h:i<j' s:=eK h;have hgi:s[i]?=q' s[i]:=aiu h;refine bZ Z (cp s[i] (by rw[cx];exact hgi) ?_);refine xq s[i] ?_;apply aZ<;>intro h2
  ·exact KF
  refine⟨i+1,⟨om,?_⟩,om,.eS,Z,Z⟩;exact JY
 have h:j' s<=i:=dK h;refine fK ?_ hk;rw[aix om]at hp;exact hp.symm
def kwL:n_ cC:=[[97,110,100],[97,110,121],[97,115],[98,111,111,108],[100,101,112,114,101,99,97,116,101,100],[101,108,115,101],[101,120,112,111,114,116],[102,97,108,115,101],[102,110],[102,111,108,100],[102,114,111,109],[105,102],[105,109,112,111,114,116],[105,110],[105,110,116],[108,101,110,103,116,104],[108,101,116],[108,105,115,116],[109,97,116,99,104],[109,111,100,117,108,101],[110,111,110,101],[110,111,116],[111,114],[116,101,120,116],[116,104,101,110],[116,114,117,101],[116,121,112,101],[117,115,101]]
def eY(a:n_ cC):n_ cP:=a.map λb=>[.str b]
def ah0:Nat->Bool:=λa=>aiR a 1
def vK(a:∀b,g (.ret (.d (.ps b 0 1 28 (eY kwL)))) y):b7 C cm tZ [] y g:=by
 refine b7.body ah0 (λ_=>Z) ?_;intro b;exact a b
def z1(a:n_ cC)(m:j' a<4294967296)(k:cC)(l i:Nat)(d:g (.ret (cj (decide (k∈a)))) y):b7 C cm zL [.d (.ps l 0 1 i (eY a)),cv k] y g:=by
 refine cA ?_;have f:j' (eY a)=j' a:=by simp[eY]
 refine ck.iter (λb:Nat=>[(5,cl b),(0,.d (.ps l 0 1 i (eY a))),(1,cv k)]) (λ_=>y) (λb=>j' a-b) (λb=>b<=j' a/\k ∉ a.take b) ?_ 0 ⟨om,by simp⟩;rintro b ⟨o,j⟩;apply aZ<;>intro h
 ·have h:b<j' a:=f▸eK h;have e:a[b]?=q' a[b]:=aiu h;refine bZ Z (cp [.str a[b]] (by rw[cx,eY,List.getElem?_map,e];try rfl) ?_);apply aZ<;>intro c
  ·have c:a[b]=k:=f_ c;rw[a_ (c▸aiv h)]at d;exact d
  have c:a[b]≠k:=e_ c;refine⟨b+1,⟨om,?_⟩,om,.eS,Z,Z⟩;rw[aiJ,e];simp only[Option.toList,aiI,aiE,not_or];exact⟨j,λn=>c n.symm⟩
 have h:j' a<=b:=f▸dK h;rw[aix h]at j;rw[Z' j]at d;exact d
def kwT:n_ cC->cC
 |[]=>[32]
 |w::a=>32::(w++kwT a)
def Dh(b a:cC):vv b a=b.isPrefixOf a:=by
 induction b generalizing a with
 |nil=>cases a<;>rfl
 |cons x b d=>
  cases a with
  |nil=>rfl
  |cons c a=>
   simp only[vv,aiC,d];rw[show(x==c)=aiR x.toNat c.toNat from by rw[Bool.eq_iff_iff];simp only[beq_iff_eq,Nat.beq_eq];exact UInt8.toNat_inj.symm];cases aiR x.toNat c.toNat<;>rfl
theorem aah{s a b:cC}(f:32 ∉ s)(c:32 ∉ a):(s++[32]).isPrefixOf (a++32::b)=decide (s=a):=by
 induction s generalizing a with
 |nil=>
  cases a with
  |nil=>simp[aiC]
  |cons d a=>
   grind
 |cons x s e=>
  cases a with
  |nil=>
   grind [aiC]
  |cons d a=>
   all_goals grind [aiC]
theorem aai{p b a:cC}(c:32 ∉ b)(e:∃d,p=32::d):mR p (b++a)=mR p a:=by
 induction b with
 |nil=>rfl
 |cons h b i=>
  obtain⟨d,rfl⟩:=e;have f:h≠32:=λk=>c (by simp[k]);have j:vv (32::d) (h::(b++a))=B':=by
   rw[Dh,aiC];simp[f.symm]
  grind [mR]
def aaj(a:n_ cC):∃b,kwT a=32::b:=by
 cases a with
 |nil=>exact⟨_,rfl⟩
 |cons c a=>exact⟨_,rfl⟩
def Xb(s:cC)(k:32 ∉ s):∀a:n_ cC,(∀b∈a,32 ∉ b)->mR (32::(s++[32])) (kwT a)=decide (s∈a):=by
 intro a;induction a with
 |nil=>
  intro _;have j:vv (32::(s++[32])) [32]=B':=by
   rw[Dh];cases s<;>simp[aiC]
  simp only[kwT,mR,j];simp
 |cons b a d=>
  intro c;have⟨l,i⟩:=aaj a;have e:vv (32::(s++[32])) (32::(b++kwT a))=decide (s=b):=by
   rw[Dh,aiC,i,aah k (c b sm)];simp
  have d:=d (λb h=>c b (by simp[h]));simp only[kwT,mR,e];by_cases f:s=b
  ·simp[f]
  simp only[Z' f];rw[aai (c b sm) ⟨_,rfl⟩,d];simp[f]
def P9(b:A.all isWord=A'):Zn A=decide (A∈kwL):=by
 have a:32 ∉ A:=λh=>by
  have:=List.all_eq_true.1 b 32 h;revert this;decide
 have c:EZ=kwT kwL:=rfl;unfold Zn;rw[c];exact Xb A a kwL dc
def fC(s:cC)(e:j' s<4294967296)(hk:g (.ret (cj (c8 s))) y):b7 C cm vS [cv s] y g:=by
 refine cA ?_;apply aZ<;>intro h1
 ·repeat refine b9 h1 ?_
  cases s with
  |nil=>simp at h1
  |cons c r=>
   apply aZ<;>intro h2
   ·have LJ:j' (c::r)<=32:=ML h2;refine b9 h2 (bZ Z (cp c Z ?_));refine b9 h2 (qU c ?_);refine b9 h2 ?_;apply aZ<;>intro h3
    ·refine b9 h3 (BO (c::r) om ?_);refine b9 h3 ?_;apply aZ<;>intro h4
     ·have b:(c::r).all isWord=A':=h4;refine vK (λd=>?_);repeat refine b9 h4 ?_
      refine z1 kwL dc (c::r) d 28 ?_;rw[<-P9 b];repeat refine b9 h4 ?_
      exact JW
     exact Kx
    exact KK
   exact JF
 exact JT
def kP(s:cC)(b:j' s<4294967296)(hk:g (.ret (cj (eC s))) y):b7 C cm vT [cv s] y g:=by
 refine cA ?_;apply aZ<;>intro h1
 ·repeat refine b9 h1 ?_
  cases s with
  |nil=>simp at h1
  |cons c r=>
   apply aZ<;>intro h2
   ·have LJ:j' (c::r)<=32:=ML h2;refine b9 h2 (bZ Z (cp c Z ?_));refine b9 h2 (rW c ?_);refine b9 h2 ?_;apply aZ<;>intro h3
    ·refine b9 h3 (BO (c::r) om ?_);exact Kp
    exact KG
   exact JG
 exact JT
def Cu{p:UInt8->Bool}(i:u<=j' A)(a:(A.take u).all p=A')(d:∀(h:u<j' A),p A[u]=B'):eE p A=u:=by
 unfold eE;have f:A=A.take u++A.drop u:=(aiN u A).symm;have c:A.takeWhile p=A.take u:=by
  conv=>lhs;rw[f]
  rw[List.takeWhile_append_of_pos (λe b=>List.all_eq_true.1 a e b)];have:(A.drop u).takeWhile p=[]:=by
   rcases Nat.lt_or_ge u (j' A) with h|h
   ·rw[aiA h,List.takeWhile_cons,d h];try rfl
   rw[aiD h];try rfl
  rw[this,aiP]
 rw[c,aiG];omega
theorem GZ{p:UInt8->Bool}(h:u<j' A)(a:(A.take u).all p=A')(b:p A[u]=A'):(A.take (u+1)).all p=A':=by
 rw[aiJ,aiu h]
 grind
def Iu(s:cC)(b:j' s<4294967296)(hk:g (.ret (cl (eE isDigit s))) y):b7 C cm qx [cv s,cj A'] y g:=by
 refine cA ?_;refine ck.iter (λi:Nat=>[(5,cl i),(0,cv s),(1,cj A')]) (λ_=>y) (λi=>j' s-i) (λi=>i<=j' s/\(s.take i).all isDigit=A') ?_ 0 ⟨om,by simp⟩;rintro i ⟨hi,hp⟩;apply aZ<;>intro hc
 ·have h:i<j' s:=eK hc;repeat refine b9 hc ?_
  refine bZ Z (cp s[i] (by rw[cx];exact aiu h) ?_);repeat refine b9 hc ?_
  refine kB s[i] ?_;repeat refine b9 hc ?_
  apply aZ<;>intro a
  ·repeat first|refine b9 a ?_|refine b9 hc ?_
   exact⟨i+1,⟨om,GZ h hp a⟩,om,.eS,Z,Z⟩
  repeat first|refine a7 a ?_|refine b9 hc ?_
  refine nO ?_ hk;rw[Cu hi hp (λ_=>a)]
 exact Km
variable{L:UInt8}
def S3(h:isDigit L=A'):isWord L=A':=by simp[isWord,h]
def Nk(s:cC)(c:j' s<4294967296)(hk:g (.ret (cl (eE isWord s))) y):b7 C cm qx [cv s,cj B'] y g:=by
 refine cA ?_;refine ck.iter (λi:Nat=>[(5,cl i),(0,cv s),(1,cj B')]) (λ_=>y) (λi=>j' s-i) (λi=>i<=j' s/\(s.take i).all isWord=A') ?_ 0 ⟨om,by simp⟩;rintro i ⟨hi,hp⟩;apply aZ<;>intro hc
 ·have h:i<j' s:=eK hc;repeat refine b9 hc ?_
  refine bZ Z (cp s[i] (by rw[cx];exact aiu h) ?_);repeat refine b9 hc ?_
  refine kB s[i] ?_;repeat refine b9 hc ?_
  apply aZ<;>intro a
  ·repeat first|refine b9 a ?_|refine b9 hc ?_
   exact⟨i+1,⟨om,GZ h hp (S3 a)⟩,om,.eS,Z,Z⟩
  repeat first|refine a7 a ?_|refine b9 hc ?_
  refine bZ Z (cp s[i] (by rw[cx];exact aiu h) ?_);repeat first|refine a7 a ?_|refine b9 hc ?_
  refine xq s[i] ?_;repeat first|refine a7 a ?_|refine b9 hc ?_
  apply aZ<;>intro b
  ·repeat first|refine a7 a ?_|refine b9 hc ?_|refine b9 b ?_
   exact⟨i+1,⟨om,GZ h hp b⟩,om,.eS,Z,Z⟩
  repeat first|refine a7 a ?_|refine b9 hc ?_|refine a7 b ?_
  refine nO ?_ hk;rw[Cu hi hp (λ_=>b)]
 exact Km
def bT{a d:UInt8}(h:decide (ait a.toNat=ait d.toNat)=A'):a=d:=UInt8.toNat_inj.1 (Dw h)
def bF{a d:UInt8}(h:decide (ait a.toNat=ait d.toNat)=B'):a≠d:=λb=>A7 h (by rw[b])
def nbT{a d:UInt8}(h:(!decide (ait a.toNat=ait d.toNat))=A'):a≠d:=bF (by simpa using h)
def nbF{a d:UInt8}(h:(!decide (ait a.toNat=ait d.toNat))=B'):a=d:=bT (by simpa using h)
def Xc{a b:Nat}(h:a+b<9223372036854775806):IntKind.i64.wrap (IntKind.i64.wrap (ait a+ait b)+1)=ait (a+b+1):=by
 rw[dk om,cF om]
def acH(a:cC):dO B' (47::47::a)=1+dO A' (47::a):=rfl
def skS(b:cC)(a:Nat)(x:Bool×Nat):Tm:=[(0,cv b),(1,cl a),(5,cj x.1),(6,cl x.2)]
variable{U:Bool}
def yx{b n:Nat}{i:V}{a:Tm}(j:n<4294967296)(f:gE a 5=q' i)(d:i=cj U)(h:gE a 0=q' (cv A))(e:gE a 1=q' (cl b))(c:gE a 6=q' (.d (.int .i64 (IntKind.i64.wrap (ait n+1))))):np (skS A b (U,n+1)) a:=
 ⟨h,e,by rw[f,d],by rw[c,cF om];try rfl,tv⟩
def D3(s:cC)(a:Nat)(V:a<=j' s)(J:j' s<4294967296)(B:g (.ret (cl (dO B' (s.drop a)))) y):b7 C cm qt [cv s,cl a] y g:=by
 refine cA ?_;refine ck.iter (skS s a) (λ_=>y) (λx=>j' s-x.2) (λx=>a+x.2<=j' s/\dO B' (s.drop a)=x.2+dO x.1 (s.drop (a+x.2))) ?_ (B',0) ⟨V,by simp⟩;rintro⟨K,n⟩ ⟨S,he⟩;have S:a+n<=j' s:=S;have he:dO B' (s.drop a)=n+dO K (s.drop (a+n)):=he;apply aZ<;>intro D
 ·rw[dk om]at D;have h:a+n<j' s:=eK D;have d:s.drop (a+n)=s[a+n]::s.drop (a+n+1):=aiA h;have z:=dk (a:=a) (b:=n) om;refine bZ z (cp s[a+n] (by rw[cx];exact aiu h) ?_);generalize s[a+n]=I at d;cases K with
  |true=>
   refine⟨(decide (I≠10),n+1),⟨by show a+(n+1)<=j' s;omega,?_⟩,ik,.same (yx om Z ?_ Z Z Z) Z,Z,Z⟩
   ·show dO B' (s.drop a)=n+1+dO (decide (I≠10)) (s.drop (a+n+1));rw[he,d,dO];omega
   show cj (!decide (ait I.toNat=10))=cj (decide (I≠10));congr 1;by_cases A:I=10
   ·subst A;rfl
   rw[a_ A,Bool.not_eq_true',decide_eq_false_iff_not];intro u;exact A (bT (d:=10) (a_ u))
  |false=>
   have t:=Xc (a:=a) (b:=n) om;apply aZ<;>intro c
   ·have b:=bT (d:=47) c;subst b;repeat refine b9 c ?_
    apply aZ<;>intro j
    ·have k:=j;rw[t]at k;have w:a+n+1<j' s:=eK k;have p:s.drop (a+n+1)=s[a+n+1]::s.drop (a+n+1+1):=aiA w;repeat first|refine b9 j ?_|refine b9 c ?_
     refine bZ t (cp s[a+n+1] (by rw[cx];exact aiu w) ?_);generalize s[a+n+1]=G at p;repeat first|refine b9 j ?_|refine b9 c ?_
     apply aZ<;>intro i
     ·have b:=bT (d:=47) i;subst b;repeat first|refine b9 i ?_
      refine⟨(A',n+1),⟨by show a+(n+1)<=j' s;omega,?_⟩,ik,.same (yx om Z Z Z Z Z) Z,Z,Z⟩;show dO B' (s.drop a)=n+1+dO A' (s.drop (a+n+1));rw[he,d,p,acH];omega
     have b:=bF (d:=47) i;repeat first|refine a7 i ?_
     refine nO ?_ B;rw[he,d,p,dO,W' (by rintro⟨_,h⟩;simp at h;exact b h),W' dc];try rfl
    have k:=j;rw[t]at k;have w:j' s<=a+n+1:=dK k;repeat first|refine a7 j ?_|refine b9 c ?_
    refine nO ?_ B;rw[he,d,aiD w,dO,W' (by rintro⟨_,h⟩;simp at h),W' dc];try rfl
   have b:=bF (d:=47) c;repeat refine a7 c ?_
   have R:¬(I=47/\(s.drop (a+n+1)).head? =q' 47):=λh=>b h.1;apply aZ<;>intro f
   ·have v:=nbT (d:=32) f;repeat refine b9 f ?_
    apply aZ<;>intro m
    ·have E:=nbT (d:=9) m;repeat first|refine b9 f ?_|refine b9 m ?_
     apply aZ<;>intro e
     ·have r:=nbT (d:=10) e;repeat first|refine b9 m ?_|refine b9 e ?_
      apply aZ<;>intro l
      ·have q:=nbT (d:=13) l;repeat first|refine b9 l ?_|refine b9 e ?_
       refine nO ?_ B;rw[he,d,dO,W' R,W' (by rintro(h|h|h|h);exact v h;exact E h;exact r h;exact q h)];try rfl
      have q:=nbF (d:=13) l;repeat first|refine a7 l ?_|refine b9 e ?_
      exact⟨(B',n+1),⟨by show a+(n+1)<=j' s;omega,by show _=n+1+dO B' (s.drop (a+n+1));rw[he,d,nw (.inr (.inr (.inr q)))];omega⟩,ik,.same (yx om Z Z Z Z Z) Z,Z,Z⟩
     have r:=nbF (d:=10) e;repeat first|refine a7 e ?_|refine b9 m ?_
     exact⟨(B',n+1),⟨by show a+(n+1)<=j' s;omega,by show _=n+1+dO B' (s.drop (a+n+1));rw[he,d,nw (.inr (.inr (.inl r)))];omega⟩,ik,.same (yx om Z Z Z Z Z) Z,Z,Z⟩
    have E:=nbF (d:=9) m;repeat first|refine a7 m ?_|refine b9 f ?_
    exact⟨(B',n+1),⟨by show a+(n+1)<=j' s;omega,by show _=n+1+dO B' (s.drop (a+n+1));rw[he,d,nw (.inr (.inl E))];omega⟩,ik,.same (yx om Z Z Z Z Z) Z,Z,Z⟩
   have v:=nbF (d:=32) f;repeat refine a7 f ?_
   exact⟨(B',n+1),⟨by show a+(n+1)<=j' s;omega,by show _=n+1+dO B' (s.drop (a+n+1));rw[he,d,nw (.inl v)];omega⟩,ik,.same (yx om Z Z Z Z Z) Z,Z,Z⟩
 rw[dk om]at D;have h:j' s<=a+n:=dK D;refine nO ?_ B;rw[he,aiD h];simp[dO]
def Xd:cC->UInt8×Nat
 |h::b::_=>match qk h,qk b with
  |some a,q' c=>(UInt8.ofNat (16*a+c),4)
  |_,_=>(0,0)
 |_=>(0,0)
def aak:cC->UInt8×Nat
 |[]=>(0,0)
 |e::a=>if e=34∨e=92 then(e,2)else if e=110 then(10,2)else if e=120 then Xd a else(0,0)
def ED:cC->UInt8×Nat
 |[]=>(0,0)
 |c::a=>if c<32∨c=34 then(0,0)else if c≠92 then(c,1)else aak a
def ah1(x:UInt8×Nat):V:=.dP [io x.1,cl x.2]
theorem aal:∀i:cC,eQ i=match i with
  |[]=>u'
  |c::_=>if c=34 then q' ([],1)else match ED i with
   |(_,0)=>u'
   |(r,n+1)=>(eQ (i.drop (n+1))).map λx=>(r::x.1,x.2+(n+1)):=by
 intro i;cases i with
 |nil=>rw[eQ.eq_def]
 |cons c q=>
  by_cases a:c=34
  ·subst a;rw[u5];try rfl
  dsimp only;rw[W' a];by_cases k:c<32
  ·grind [Gs,ED]
  have j:¬(c<32∨c=34):=by rintro(h|h);exact k h;exact a h
  by_cases b:c≠92
  ·grind [zO,ED]
  have b:c=92:=by simpa using b
  subst b;rw[pZ,ED,W' j,W' sm];cases q with
  |nil=>rfl
  |cons l m=>
   rw[aak];dsimp only;by_cases e:l=34∨l=92
   ·rw[X' e,X' e];try rfl
   rw[W' e,W' e];by_cases d:l=110
   ·rw[X' d,X' d];try rfl
   rw[W' d,W' d];by_cases f:l=120
   ·rw[X' f,X' f];cases m with
    |nil=>rfl
    |cons h o=>
     cases o with
     |nil=>rfl
     |cons i p=>
      grind [Xd]
   rw[W' f,W' f]
theorem Qa(h:decide (0<=EC L)=A'):∃a,qk L=q' a/\EC L=ait a:=by
 grind [EC]
theorem Qb(h:decide (0<=EC L)=B'):qk L=u':=by
 unfold EC at h
 grind
def agC(h:decide (ait L.toNat<32)=U):decide (L<32)=U:=by
 rw[<-h];exact decide_eq_decide.2 ⟨λh=>by have:L.toNat<32:=h;simp only[ais];omega,λh=>by show L.toNat<32;simp only[ais]at h;omega⟩
theorem aam(b:u<16)(a:N<16):IntKind.u8.wrap (IntKind.i64.wrap (IntKind.i64.wrap (16*ait u)+ait N))=ait (UInt8.ofNat (16*u+N)).toNat:=by
 grind [ais,wrap64,Gq,UInt8.toNat_ofNat',Nat.mod_eq_of_lt]
def E6{b c:V}(a:g (.ret c) y)(d:b=c):g (.ret b) y:=d▸a
def Di(s:cC)(z:j' s<4294967296)(a:g (.ret (ah1 (ED s))) y):b7 C cm s6 [cv s] y g:=by
 refine cA ?_;cases s with
 |nil=>exact a
 |cons t u=>
  have x:decide ((t::u)=([]:cC))=B':=by simp
  repeat refine a7 x ?_
  refine bZ Z (cp t Z ?_);repeat refine a7 x ?_
  apply aZ<;>intro j
  ·have q:t<32:=f_ (agC j);repeat refine b9 j ?_
   refine E6 a ?_;rw[ED,X' (.inl q)];try rfl
  have q:¬t<32:=e_ (agC j);repeat refine a7 j ?_
  refine bZ Z (cp t Z ?_);repeat refine a7 j ?_
  apply aZ<;>intro b
  ·have e:=bT (d:=34) b;repeat refine b9 b ?_
   refine E6 a ?_;rw[ED,X' (.inr e)];try rfl
  have e:=bF (d:=34) b;have w:¬(t<32∨t=34):=by rintro(h|h);exact q h;exact e h
  repeat refine a7 b ?_
  refine bZ Z (cp t Z ?_);apply aZ<;>intro d
  ·have i:=nbT (d:=92) d;refine bZ Z (cp t Z ?_);refine E6 a ?_;rw[ED,W' w,X' i];try rfl
  have i:=nbF (d:=92) d;rw[ED,W' w,W' (by simpa using i)]at a;cases u with
  |nil=>exact a
  |cons B S=>
   refine bZ Z (cp B Z ?_);rw[aak]at a;apply aZ<;>intro b
   ·have e:=bT (d:=34) b;repeat refine b9 b ?_
    refine bZ Z (cp B Z ?_);rw[X' (.inl e)]at a;exact a
   have e:=bF (d:=34) b;repeat refine a7 b ?_
   refine bZ Z (cp B Z ?_);repeat refine a7 b ?_
   apply aZ<;>intro d
   ·have i:=bT (d:=92) d;repeat refine b9 d ?_
    refine bZ Z (cp B Z ?_);rw[X' (.inr i)]at a;exact a
   have i:=bF (d:=92) d;repeat refine a7 d ?_
   refine bZ Z (cp B Z ?_);rw[W' (by rintro(h|h);exact e h;exact i h)]at a;apply aZ<;>intro p
   ·have l:=bT (d:=110) p;rw[X' l]at a;exact a
   have l:=bF (d:=110) p;rw[W' l]at a;refine bZ Z (cp B Z ?_);apply aZ<;>intro f
   ·have m:=bT (d:=120) f;rw[X' m]at a;repeat refine b9 f ?_
    cases S with
    |nil=>exact a
    |cons h K=>
     cases K with
     |nil=>exact a
     |cons D R=>
      have c:decide (4<=ait (j' (t::B::h::D::R)))=A':=a_ (by simp only[aiy,ais];omega);rw[Xd]at a;repeat first|refine b9 c ?_|refine b9 f ?_
      refine bZ Z (cp h Z ?_);repeat refine b9 c ?_
      refine vm h ?_;repeat refine b9 c ?_
      apply aZ<;>intro k
      ·have⟨A,r,I⟩:=Qa k;repeat first|refine b9 c ?_|refine b9 k ?_
       refine bZ Z (cp D Z ?_);repeat first|refine b9 c ?_|refine b9 k ?_
       refine vm D ?_;repeat first|refine b9 c ?_|refine b9 k ?_
       apply aZ<;>intro n
       ·have⟨F,v,E⟩:=Qa n;repeat first|refine b9 c ?_|refine b9 k ?_|refine b9 n ?_
        rw[r,v]at a;repeat first
         |refine bZ rfl (cp h rfl ?_)
         |refine bZ rfl (cp D rfl ?_)
         |refine vm h ?_
         |refine vm D ?_
         |refine cO ?_
        refine E6 a ?_;show V.dP [V.d (.int .u8 (IntKind.u8.wrap (IntKind.i64.wrap (IntKind.i64.wrap (16*EC h)+EC D)))),cl 4]=_;rw[I,E,aam (E0 r) (E0 v)];try rfl
       have v:=Qb n;repeat first|refine a7 n ?_|refine b9 c ?_|refine b9 k ?_
       rw[r,v]at a;exact a
      have r:=Qb k;repeat first|refine a7 k ?_|refine b9 c ?_
      rw[r]at a;exact a
   have m:=bF (d:=120) f;rw[W' m]at a;repeat refine a7 f ?_
   exact a
def agD:n_ V:=[.d (.int .i64 0),.d (.str []),.d (.int .i64 0)]
def txS(a:cC):VS:=[.box agD,bytesRow a]
def txT(a:cC)(x:Nat×cC):Tm:=[(0,cv a),(2,.bp 0 0),(5,.ms 1 1 0 (j' x.2) (j' x.2)),(6,cl x.1)]
def ad8(x:Option (cC×Nat)):V:=match x with
 |some (a,n)=>.dP [Il 4 a 0,cl (n+1),cl 0]
 |none=>.dP [Il 0 [] 0,cl 0,cl 3]
def ah2:Nat->Bool:=λa=>aiR a 32
def ae7{a b n:Nat}(h:a<=b)(c:b<4294967296)(d:n=1:=by rfl):(a+n)*1<=en/\a+n<=en:=by
 unfold en;omega
def ae8(a:cC)(b:UInt8):q' (V.ms 2 1 0 (j' a+1) (j' a+1))=q' (V.ms 2 1 0 (j' (a++[b])) (j' (a++[b]))):=by simp
def acI{b:Nat->Nat}(a:cC)(c:UInt8):q' (cX.row 1 (((a.map λd=>[io d]).drop 0).take (j' a)++[[io c]]))=q' (eb b (bytesRow (a++[c]))):=by
 rw[Gu,bytesRow,List.map_append,List.drop_zero,aix sm];try rfl
theorem acJ:∀a:cC,(ED a).2<=j' a:=by
 intro a;cases a with
 |nil=>exact aiz _
 |cons f e=>
  rw[ED];split
  ·simp
  split
  ·simp
  cases e with
  |nil=>simp[aak]
  |cons i b=>
   rw[aak];split
   ·simp
   split
   ·simp
   split
   ·cases b with
    |nil=>simp[Xd]
    |cons h c=>
     cases c with
     |nil=>simp[Xd]
     |cons a d=>
      grind [Xd]
   simp
def Nl(s:cC)(t:0<j' s)(D:j' s<4294967296):b7 C cm qw [cv s] [] λv r=>r=[]/\v=.ret (ad8 (eQ (s.drop 1))):=by
 refine cB ah2 (λ_=>Z) ?_;refine ck.iter (txT s) (λx=>txS x.2) (λx=>j' s-x.1)
  (λx=>1<=x.1/\x.1<=j' s/\j' x.2<=x.1/\eQ (s.drop 1)=(eQ (s.drop x.1)).map λk=>(x.2++k.1,k.2+(x.1-1))) ?_ (1,[]) ⟨aiz _,t,aiw _,by simp⟩
 rintro⟨b,a⟩ ⟨o,p,l,i⟩;have o:1<=b:=o;have p:b<=j' s:=p;have l:j' a<=b:=l;have i:eQ (s.drop 1)=(eQ (s.drop b)).map λk=>(a++k.1,k.2+(b-1)):=i;apply aZ<;>intro d
 ·have h:b<j' s:=eK d;have m:s.drop b=s[b]::s.drop (b+1):=aiA h;repeat refine b9 d ?_
  refine bZ Z (cp s[b] (by rw[cx];exact aiu h) ?_);generalize s[b]=E at m;repeat refine b9 d ?_
  apply aZ<;>intro e
  ·have j:=nbT (d:=34) e;repeat first|refine b9 e ?_|refine b9 d ?_
   refine bZ Z (a6 ⟨p,aiz _⟩ ?_);refine Di _ (by rw[List.length_drop,aiG];omega) ?_;rw[List.take_length];have c:=aal (s.drop b);rw[m]at c;simp only[W' j]at c;rw[<-m]at c;have f:=acJ (s.drop b);rw[List.length_drop]at f;generalize ED (s.drop b)=x at c f;have⟨q,n⟩:=x;cases n with
   |zero=>
    have c:eQ (s.drop b)=u':=c;refine a8 0 ⟨Z,?_⟩;rw[i,c];try rfl
   |succ n=>
    have c:eQ (s.drop b)=(eQ (s.drop (b+(n+1)))).map λx=>(q::x.1,x.2+(n+1)):=by dsimp only at c;rw[List.drop_drop]at c;exact c
    have f:n+1<=j' s-b:=f;intro w;refine a6 Z (a6 ⟨Z,Z,by simp,aiz _,ae7 l om⟩ ?_);refine a7 Z (a7 (ej (j' a)) ?_);refine⟨(b+(n+1),a++[q]),⟨by show 1<=b+(n+1);omega,by show b+(n+1)<=j' s;omega,by show(a++[q]).length<=b+(n+1);simp;omega,?_⟩,by show (j' s)-(b+(n+1))<j' s-b;omega,?_,Z,Z⟩
    ·show eQ (s.drop 1)=(eQ (s.drop (b+(n+1)))).map λk=>((a++[q])++k.1,k.2+(b+(n+1)-1));rw[i,c,Option.map_map];congr 1;funext k;simp only[Function.comp,List.append_assoc,aiK,aiM];rw[show k.2+(n+1)+(b-1)=k.2+(b+(n+1)-1)from by omega]
    exact .pick 1 [0,2] ⟨Z,Z,ae8 a q,int_eq (dk om),tv⟩ Z Z Z Z Z dc ⟨Z,Z,acI a q,Pj _ _,tv⟩
  have j:=nbF (d:=34) e;subst j;repeat first|refine a7 e ?_|refine b9 d ?_
  refine a7 (Z' (by simp only[ais];omega)) ?_;refine Zp a Z Z (eG _ _ sm) sm ?_;refine a8 0 ⟨Z,?_⟩;rw[i,m,u5];show dt.ret (.dP [Il 4 a 0,.d (.int .i64 (IntKind.i64.wrap (ait b+1))),cl 0])=dt.ret (.dP [Il 4 (a++[]) 0,cl (1+(b-1)+1),cl 0]);rw[cF om,aiP,show 1+(b-1)+1=b+1 from by omega];try rfl
 have h:j' s<=b:=dK d;repeat refine a7 d ?_
 refine b9 (a_ (by simp only[ais];omega)) ?_;refine a8 0 ⟨Z,?_⟩;rw[i,aiD h];rw[show eQ []=u' from by rw[eQ.eq_def]];rfl
def Qc(s:cC)(b:0<j' s)(c:j' s<4294967296)(a:g (.ret (ad8 (eQ (s.drop 1)))) y):b7 C cm qw [cv s] y g:=by
 refine cI (Nl s b c) Z ?_ a;cases eQ (s.drop 1)with
 |none=>rfl
 |some x=>rfl
def iu:n_ cC:=[[61,61,61],[58,58],[62,58],[60,58],[61,62],[61,61],[43,43],[40],[41],[91],[93],[123],[125],[60],[62],[44],[58],[61],[46],[43],[45],[42],[124],[63],[47]]
def agE:Nat->Bool:=λa=>aiR a 1
def G0(a:∀b,g (.ret (.d (.ps b 0 1 25 (eY iu)))) y):b7 C cm uY [] y g:=by
 refine b7.body agE (λ_=>Z) ?_;intro b;exact a b
theorem acK(c:cC)(b:UInt8):∀a,decide (0<=indexByte c b.toNat a)=decide (b∈c):=by
 induction c with
 |nil=>intro a;rfl
 |cons x c e=>
  intro a;simp only[indexByte];by_cases d:x=b
  ·subst d;simp[Nat.beq_refl]
  have:aiR x.toNat b.toNat=B':=by
   rw[Bool.eq_false_iff];intro h;exact d (UInt8.toNat_inj.1 (Nat.eq_of_beq_eq_true h))
  grind
theorem Qd(a:UInt8)(c:cC):∀b:cC,(b.map λx=>[x]).find? (ef (a::c))=if a∈b then q' [a]else u':=by
 intro b;induction b with
 |nil=>rfl
 |cons x b d=>
  simp only[aiZ,List.find?_cons];have e:ef (a::c) [x]=decide (x=a):=by
   simp only[ef,aiC,aiT];rw[Bool.eq_iff_iff];simp
  all_goals grind
theorem G1(a:UInt8)(b:cC):iD (a::b)=(iu.find? (ef (a::b))).getD []:=by
 have c:iu=vJ++MR.map λx=>[x]:=rfl
 grind [Qd,iD,acK]
def ad9(x:Pl):V:=match x with
 |.ok k b n=>.dP [Il k b 0,cl n,cl 0]
 |.err a=>.dP [Il 0 [] 0,cl 0,cl a]
theorem Nn(h:isDigit L=A'):(jR L||gV L)=B':=by
 grind [jR,ais,gV,Bn]
theorem Dj(p:UInt8->Bool)(a:cC):(a.take (eE p a)).all p=A':=by
 unfold eE;have h:a=a.takeWhile p++a.dropWhile p:=List.takeWhile_append_dropWhile.symm;have b:a.take (j' (a.takeWhile p))=a.takeWhile p:=by
  grind
 rw[b];exact List.all_takeWhile
theorem Iv(s:cC)(f:UInt8)(Q:cC)(r:s=f::Q)(g:j' s<4294967296):b7 C cm pV [cv s] [] λaa N=>N=[]/\aa=.ret (ad9 (j7 s)):=by
 have l:nth s 0=q' f:=by rw[r];try rfl
 refine cD ?_;refine bZ Z (cp f l ?_);apply aZ<;>intro q
 ·have J:=bT (d:=34) q;subst J;refine Qc s (by rw[r];simp) g ?_;have ht:j7 s=match eQ (s.drop 1)with
   |some (u,n)=>.ok 4 u (n+1)
   |none=>.err 3:=by rw[r];try rfl
  generalize eQ (s.drop 1)=x at ht;cases x<;>exact a8 0 ⟨rfl,by rw[ht];try rfl⟩
 have q:=bF (d:=34) q;refine bZ Z (cp f l ?_);refine kB f ?_;apply aZ<;>intro X
 ·refine Iu s g ?_;have b:=ue isDigit s;have a:j7 s=mb s (s.take (eE isDigit s)) (eE isDigit s) f:=by
   grind [j7,Nn]
  generalize eE isDigit s=n at b a;have S:j' (s.take n)=n:=by rw[aiG];omega
  rw[mb,S]at a;apply aZ<;>intro d
  ·repeat refine b9 d ?_
   exact a8 0 ⟨Z,by rw[a,X' (.inl (eK (a:=19) d))];try rfl⟩
  repeat refine a7 d ?_
  refine aZ (λR=>?_) (λR=>?_);refine cN ?_;refine bZ Z (cp f l ?_);refine cN ?_;refine aZ (λD=>?_) (λD=>?_)
  ·refine cN ?_;exact a8 0 ⟨Z,by rw[a,X' (.inr (.inl ⟨eK (a:=1) R,bT (d:=48) D⟩))];try rfl⟩
  all_goals
   have v:¬(1<n/\f=48):=by
    first
     |exact λh=>bF (d:=48) (by assumption) h.2
     |exact λh=>Y' h.1 (Nat.not_lt.2 (dK (a:=1) R))
   refine cN ?_;apply aZ<;>intro M
   ·have E:n<j' s:=eK M;have K:s.drop n=s[n]::s.drop (n+1):=aiA E;refine cN ?_;refine bZ Z (cp s[n] (by rw[cx];exact aiu E) ?_);generalize s[n]=L at K;refine cN ?_;refine xq L ?_;cases t:isWord L<;>refine cN ?_
    ·refine bZ Z (a6 ⟨aiw _,b⟩ ?_);exact a8 0 ⟨Z,by rw[a,W' (by rw[K];rintro(h|h|h);exact Y' h (Nat.not_lt.2 (dK (a:=19) d));exact v h;exact Y' h (by simp[t]))];rfl⟩
    exact a8 0 ⟨Z,by rw[a,X' (by rw[K];exact .inr (.inr t))];rfl⟩
   refine cN ?_;refine bZ Z (a6 ⟨aiw _,b⟩ ?_);exact a8 0 ⟨Z,by rw[a,W' (by rw[aiD (dK M)];rintro(h|h|h);exact Y' h (Nat.not_lt.2 (dK (a:=19) d));exact v h;exact Y' h sm)];rfl⟩
 refine bZ Z (cp f l ?_);refine qU f ?_;refine aZ (λj=>?_) (λj=>?_);rotate_left;repeat refine a7 j ?_
 refine bZ Z (cp f l ?_);repeat refine a7 j ?_
 refine rW f ?_;repeat refine a7 j ?_
 refine aZ (λy=>?_) (λy=>?_);rotate_left
 ·refine G0 (λu=>?_);have a:j7 s=if iD (f::Q)=[]then .err 3 else .ok 6 (iD (f::Q)) (j' (iD (f::Q))):=by
   grind [j7,jR,gV]
  rw[G1,<-r]at a;refine iV (fx:=[(0,cv s),(2,.bp 0 0),(3,cl 0),(4,cl 0),(7,.d (.ps u 0 1 25 (eY iu))),(8,cl 0)]) ?_;have W:j' iu=25:=rfl;refine ck.iter (λi:Nat=>[(0,cv s),(2,.bp 0 0),(3,cl 0),(4,cl 0),(7,.d (.ps u 0 1 25 (eY iu))),(8,cl i)]) (λ_=>[.box agD]) (λi=>25-i) (λi=>i<=25/\(iu.take i).find? (ef s)=u') ?_ 0 ⟨om,Z⟩;rintro i ⟨ab,V⟩;apply aZ<;>intro P
  ·have h:i<j' iu:=eK P;have z:iu[i]?=q' iu[i]:=aiu h;have A:iu[i]≠[]:=by have:=aiv h;exact(show ∀x∈iu,x≠[]by decide) _ this
   have O:iu=iu.take i++iu[i]::iu.drop (i+1):=by rw[<-aiA h,aiN]
   have hnx:(iu.take (i+1)).find? (ef s)=u'∨ef s iu[i]=A':=by
    grind
   have o:ef s iu[i]=A'->j7 s=.ok 6 iu[i] (j' iu[i]):=λhb=>by
    have:iu.find? (ef s)=q' iu[i]:=(d_ (List.find? (ef s)) O).trans (by rw[List.find?_append,V,List.find?_cons,hb];try rfl);rw[a,this];exact W' A
   have m:nth (eY iu) i=q' [.str iu[i]]:=by rw[cx,eY,List.getElem?_map,z];try rfl
   generalize iu[i]=x at hnx o m;refine bZ Z (cp _ m ?_);apply aZ<;>intro e
   ·have c:j' x<=j' s:=ML e;repeat first
     |refine b9 e ?_
     |refine bZ rfl (cp _ m ?_)
     |refine bZ rfl (a6 ⟨aiw _,c⟩ ?_)
     |refine cO ?_
    apply aZ<;>intro H
    ·have hb:ef s x=A':=by rw[<-zN c];exact H
     have F:=o hb;repeat first
      |refine b9 e ?_
      |refine bZ rfl (cp _ m ?_)
      |refine bZ rfl (a6 ⟨aiw _,c⟩ ?_)
      |refine cO ?_
     refine a8 0 ⟨Z,by rw[F];try rfl⟩
    have hb:ef s x=B':=by rw[<-zN c];exact H
    exact Kv
   have hb:ef s x=B':=Le (Fs e);repeat first
    |refine a7 e ?_
    |refine bZ rfl (cp _ m ?_)
    |refine cO ?_
   exact Kv
  have h:25<=i:=dK P;rw[aix h]at V;rw[V]at a;refine a8 0 ⟨Z,by rw[a];try rfl⟩
 all_goals
  have t:(jR f||gV f)=A':=by simp[*]
  refine cN ?_;refine Nk s g ?_;have b:=ue isWord s;have p:=Dj isWord s;have a:j7 s=lN (s.take (eE isWord s)) (eE isWord s):=by
   rw[r,j7,X' t]
  generalize eE isWord s=n at b a p;have w:j' (s.take n)<4294967296:=by rw[aiG];omega
  repeat first|refine bZ rfl (a6 ⟨aiw _,b⟩ ?_)|refine cO ?_
  refine vK (λu=>?_);repeat first|refine bZ rfl (a6 ⟨aiw _,b⟩ ?_)|refine cO ?_
  refine z1 kwL dc _ u 28 ?_;rw[List.drop_zero,<-P9 p];refine db ?_;rw[lN]at a;apply aZ<;>intro G
  ·refine bZ Z (a6 ⟨aiw _,b⟩ ?_);exact a8 0 ⟨Z,by rw[a,X' G];try rfl⟩
  refine bZ Z (a6 ⟨aiw _,b⟩ ?_);refine fC (s.take n) w ?_;rw[G]at a;apply aZ<;>intro B
  ·refine bZ Z (a6 ⟨aiw _,b⟩ ?_);exact a8 0 ⟨Z,by rw[a,W' dc,X' B];try rfl⟩
  refine bZ Z (a6 ⟨aiw _,b⟩ ?_);refine kP (s.take n) w ?_;rw[show c8 (s.take n)=B' from B]at a;apply aZ<;>intro I
  ·refine bZ Z (a6 ⟨aiw _,b⟩ ?_);exact a8 0 ⟨Z,by rw[a,W' dc,W' dc,X' I];try rfl⟩
  rw[show eC (s.take n)=B' from I]at a;exact a8 0 ⟨Z,by rw[a];try rfl⟩
def S4(a:Tok):Prop:=(a.kind=5->a.text.all isWord=A')/\(a.kind=6->a.text∈iu)
theorem Xe(h:iD A≠[]):iD A∈iu:=by
 cases A with
 |nil=>exact Y' rfl h
 |cons b c=>
  rw[G1]at h⊢;cases a:iu.find? (ef (b::c))with
  |none=>rw[a]at h;exact Y' rfl h
  |some x=>exact List.mem_of_find?_eq_some a
theorem acL{a:cC}{k n:Nat}(h:j7 A=.ok k a n):(k=5->a.all isWord=A')/\(k=6->a∈iu):=by
 cases A with
 |nil=>cases h
 |cons b c=>
  all_goals grind [j7,lN,mb,Dj,Xe]
theorem aan(s:cC):∀(d a:Nat) (e:n_ Tok),jA s d a=.ok e->∀i∈e,S4 i:=by
 intro d;induction d with
 |zero=>intro a e h;cases h;simp
 |succ d f=>
  intro a e h;rw[jA]at h;split at h
  ·cases h;intro i ht;simp at ht;subst ht;exact⟨λh=>by simp at h,λh=>by simp at h⟩
  cases ht:j7 (s.drop a)with
  |err p=>rw[ht]at h;cases h
  |ok k i n=>
   rw[ht]at h;dsimp only at h;cases c:jA s d (a+n+dO B' (s.drop (a+n)))with
   |err o m=>rw[c]at h;cases h
   |ok j=>
    rw[c]at h;cases h;intro l b;rcases aiH.1 b with rfl|b
    ·exact acL ht
    exact f _ j c l b
def Rd.Kd(R:Rd):Prop:=∀p,p<j' R.ts->S4 (R.tok p)
theorem aao{R:Rd}(h:k5 A=.ok R.ts):R.Kd:=by
 intro p a;have b:=ai3 (cn a);all_goals grind [k5,aan]
def G2(h:S4 X)(a:A ∉ iu):cG X A=(decide (X.text=A)&&decide (X.kind=5)):=by
 unfold cG;by_cases b:X.text=A
 ·by_cases k:X.kind=6
  ·exact Y' (b▸h.2 k) a
  rw[Z' k,Bool.or_false]
 rw[Z' b];try rfl
def Xf(h:S4 X){s:cC}(a:s.all isWord=B'):cG X s=(decide (X.text=s)&&decide (X.kind=6)):=by
 unfold cG;by_cases b:X.text=s
 ·by_cases k:X.kind=5
  ·have:=h.1 k;rw[b,a]at this;cases this
  rw[Z' k,Bool.false_or]
 rw[Z' b];try rfl
theorem fq{R R':Rd}(h:R.ts=R'.ts)(p:Nat):R.tok p=R'.tok p:=by unfold Rd.tok;rw[h]
def kb{R R':Rd}(h:R.ts=R'.ts):∀(a:n_ cC) (p:Nat),cw R a p=cw R' a p:=by
 intro a;induction a with
 |nil=>intro p;rfl
 |cons c a b=>intro p;rw[cw,cw,fq h,b]
def Qe{R R':Rd}(h:R.ts=R'.ts)(ty:Nat->PR Ty):∀(b:Nat) (a:n_ Ty) (p:Nat),eO ty R b a p=eO ty R' b a p:=by
 intro b;induction b with
 |zero=>intro a p;rfl
 |succ b c=>
  intro a p;rw[eO,eO];cases ty p with
  |bad f i=>rfl
  |ok e d=>dsimp only;rw[fq h,c,kb h]
def Qf{R R':Rd}(h:R.ts=R'.ts)(ty:Nat->PR Ty)(p:Nat):fS ty R p=fS ty R' p:=by
 rw[fS,fS,fq h,Qe h,h]
def D4{R R':Rd}(h:R.ts=R'.ts)(ty:Nat->PR Ty)(p:Nat):dE ty R p=dE ty R' p:=by
 rw[dE,dE,kb h];cases cw R' [[91]] p with
 |bad b c=>rfl
 |ok d a=>
  dsimp only;cases ty a with
  |bad b c=>rfl
  |ok e q1=>dsimp only;rw[kb h]
theorem Iw{R R':Rd}(h:R.ts=R'.ts)(ty:Nat->PR Ty)(d e:cC)(b:Bool):∀(f:Nat) (a:n_ oK) (c:Nat),ep ty R d e b f a c=ep ty R' d e b f a c:=by
 intro f;induction f with
 |zero=>intro a c;rfl
 |succ f i=>
  intro a c;rw[ep,ep,fq h,fq h (c+1),kb h];split
  ·rfl
  split
  ·rfl
  cases cw R' [[58]] (if(b&&cG (R'.tok (c+1)) [63])=A' then c+1+1 else c+1)with
  |bad j k=>rfl
  |ok l q2=>
   dsimp only;cases ty q2 with
   |bad j k=>rfl
   |ok m q1=>
    dsimp only;rw[fq h,kb h];all_goals grind
def S5{R R':Rd}(h:R.ts=R'.ts)(ty:Nat->PR Ty)(c b:cC)(a:Bool)(p:Nat):ek ty R c b a p=ek ty R' c b a p:=by
 rw[ek,ek,fq h,Iw h,h]
theorem acM{R R':Rd}(h:R.ts=R'.ts)(ty:Nat->PR Ty)(b:Nat)(a:cC)(c k:Nat):vf ty R b a c k=vf ty R' b a c k:=by
 have d:∀p,dE ty R p=dE ty R' p:=D4 h ty;have j:∀o p,cw R o p=cw R' o p:=kb h;have e:∀m l n p,ek ty R m l n p=ek ty R' m l n p:=S5 h ty;have i:∀p,fS ty R p=fS ty R' p:=Qf h ty;have f:∀p,R.tok p=R'.tok p:=fq h;unfold vf;simp only[d,j,e,i,f]
theorem UI{R R':Rd}(h:R.ts=R'.ts):∀(a:Nat),iM R a=iM R' a:=by
 intro a;induction a with
 |zero=>rfl
 |succ a b=>
  grind [iM,fq,acM]
def PR.E{b:Type}(x:PR b):Prop:=∀a c,x=.bad a c->c≠0
def PR.E.ok{a:Type}{d:a}{c:Nat}:(PR.ok d c).E:=λb e h=>by cases h
def PR.E.bad{b:Type}{a d:Nat}(h:d≠0):(PR.bad a d:PR b).E:=λ_ _ c=>by cases c;exact h
theorem PR.E.get{a:Type}(h:(PR.bad u N:PR a).E):N≠0:=h u N rfl
theorem PR.E.map{a b:Type}{c:a->b}{x:PR a}(h:x.E):(x.map c).E:=by
 cases x with
 |ok e d=>exact .ok
 |bad f i=>exact .bad h.get
def jB(R:Rd):∀(a:n_ cC) (p:Nat),(cw R a p).E:=by
 intro a;induction a with
 |nil=>intro p;exact .ok
 |cons c a b=>
  intro p;rw[cw];split
  ·exact b _
  exact .bad dc
def S6{ty:Nat->PR Ty}(ht:∀p,(ty p).E)(R:Rd):∀(d:Nat) (a:n_ Ty) (p:Nat),(eO ty R d a p).E:=by
 intro d;induction d with
 |zero=>intro a p;exact .bad dc
 |succ d e=>
  intro a p;rw[eO];have c:=ht p;cases h:ty p with
  |bad j k=>rw[h]at c;exact .bad c.get
  |ok n i=>
   dsimp only;split
   ·exact e _ _
   have b:=jB R [[93]] i;cases f:cw R [[93]] i with
   |ok m l=>exact .ok
   |bad j k=>rw[f]at b;exact .bad b.get
def No{ty:Nat->PR Ty}(ht:∀p,(ty p).E)(R:Rd)(p:Nat):(fS ty R p).E:=by
 rw[fS];split
 ·exact S6 ht R _ _ _
 exact .ok
def vn{ty:Nat->PR Ty}(ht:∀p,(ty p).E)(R:Rd)(p:Nat):(dE ty R p).E:=by
 rw[dE];have b:=jB R [[91]] p;cases e:cw R [[91]] p with
 |bad i j=>rw[e]at b;exact .bad b.get
 |ok k h=>
  dsimp only;have a:=ht h;cases d:ty h with
  |bad i j=>rw[d]at a;exact .bad a.get
  |ok l q1=>
   dsimp only;have c:=jB R [[93]] q1;cases f:cw R [[93]] q1 with
   |bad i j=>rw[f]at c;exact .bad c.get
   |ok k q2=>exact .ok
def Np{ty:Nat->PR Ty}(ht:∀p,(ty p).E)(R:Rd)(a h:cC)(c:Bool):∀(k:Nat) (b:n_ oK) (d:Nat),(ep ty R a h c k b d).E:=by
 intro k;induction k with
 |zero=>intro b d;exact .bad dc
 |succ k n=>
  intro b d;rw[ep];split
  ·exact .bad dc
  split
  ·exact .bad dc
  generalize (if(c&&cG (R.tok (d+1)) [63])=A' then d+1+1 else d+1)=e;have j:=jB R [[58]] e;cases m:cw R [[58]] e with
  |bad q r=>rw[m]at j;exact .bad j.get
  |ok s q2=>
   dsimp only;have f:=ht q2;cases l:ty q2 with
   |bad q r=>rw[l]at f;exact .bad f.get
   |ok t q1=>
    dsimp only;split
    ·exact .ok
    have i:=jB R [a] q1;cases o:cw R [a] q1 with
    |bad q r=>rw[o]at i;exact .bad i.get
    |ok s q3=>exact n _ _
def Dk{ty:Nat->PR Ty}(ht:∀p,(ty p).E)(R:Rd)(c b:cC)(a:Bool)(p:Nat):(ek ty R c b a p).E:=by
 rw[ek];split
 ·exact .ok
 exact(Np ht R c b a _ _ _).map
def ae9{ty:Nat->PR Ty}(ht:∀p,(ty p).E)(R:Rd)(f:Nat)(d:cC)(b c:Nat):(vf ty R f d b c).E:=by
 have e:(PR.bad b 3:PR Ty).E:=.bad dc;unfold vf;split
 ·split
  ·exact .ok
  split
  ·exact(vn ht R c).map
  split
  ·have a:=jB R [[40]] c;cases h:cw R [[40]] c with
   |bad k l=>rw[h]at a;exact .bad a.get
   |ok m q1=>
    dsimp only;have i:=Dk ht R [44] [41] A' q1;cases j:ek ty R [44] [41] A' q1 with
    |bad k l=>rw[j]at i;exact .bad i.get
    |ok n q2=>exact(ht q2).map
  exact e
 split
 ·split
  ·exact(Dk ht R _ _ _ _).map
  split
  ·exact(Dk ht R _ _ _ _).map
  exact e
 split
 ·exact(No ht R c).map
 split
 ·have a:=jB R [[58,58]] c;cases h:cw R [[58,58]] c with
  |bad k l=>rw[h]at a;exact .bad a.get
  |ok m q1=>
   dsimp only;split
   ·exact .bad dc
   exact(No ht R _).map
 exact e
def aap(R:Rd):∀(a p:Nat),(iM R a p).E:=by
 intro a;induction a with
 |zero=>intro p;exact .bad dc
 |succ a b=>intro p;rw[iM];exact ae9 b R _ _ _ _
variable{Y:n_ Ex}
section
variable{γ δ:Type} (step:γ->Ex->γ ⊕ δ)
mutual
def ma:Ex->γ->γ ⊕ δ
 |.mk k m n x num types labels kids,g=>match step g (.mk k m n x num types labels kids)with
  |.inr s=>.inr s
  |.inl g'=>gI kids g'
def gI:n_ Ex->γ->γ ⊕ δ
 |[],g=>.inl g
 |e::l,g=>match ma e g with
  |.inr s=>.inr s
  |.inl g'=>gI l g'
end
def p4(a:Ex)(c:γ):ma step a c=match step c a with
  |.inr s=>.inr s
  |.inl b=>gI step a.kids b:=by cases a;rw[ma];try rfl
theorem G3(a d:n_ Ex)(b:γ):gI step (a++d) b=match gI step a b with
  |.inr e=>.inr e
  |.inl c=>gI step d c:=by
 induction a generalizing b with
 |nil=>rfl
 |cons x a f=>
  grind [gI]
theorem xu{b a:γ}(h:u<j' Y)(c:gI step (Y.take u) b=.inl a):gI step (Y.take (u+1)) b=ma step Y[u] a:=by
 grind [aiJ,G3,ai4,gI]
theorem xv{a:γ}{b:δ}(c:gI step (Y.take u) a=.inr b):gI step Y a=.inr b:=by
 grind [aiN,G3]
variable{step}
theorem UJ{e:γ->Nat}(k:∀b c a,step b c=.inl a->e a<=e b+(1+cQ (ov c))):∀(c:Ex) (b a:γ),ma step c b=.inl a->e a<=e b+dm c:=by
 have j:∀(n:Nat) (c:Ex) (b a:γ),dm c<=n->ma step c b=.inl a->e a<=e b+dm c:=by
  intro n;induction n with
  |zero=>intro c b a h;have:=jn c;omega
  |succ n p=>
   intro c b a h d;have m:=gT c;rw[p4]at d;cases f:step b c with
   |inr s=>rw[f]at d;cases d
   |inl o=>
    rw[f]at d;have q:=k _ _ _ f;have:∀(i:n_ Ex) (b a:γ),dn i<=n->gI step i b=.inl a->e a<=e b+dn i:=by
     intro i;induction i with
     |nil=>intro b a _ h;cases h;exact aiz _
     |cons r i l=>
      grind [gI,dn]
    grind
 intro c b a;exact j _ c b a (aiz _)
end
def E7(n:Nat)(a:VS)(b:VS)(h:j' a=n):Nat.ble n (j' (a++b))=A':=by
 rw[Nat.ble_eq,aiB,h];exact aiV _ _
def Qg(n:Nat)(a:VS)(c:cX)(b:VS)(h:j' a+1=n):Nat.ble n (j' (a++c::b))=A':=by
 rw[Nat.ble_eq,aiB,aiy];omega
theorem Lt(a:VS)(c:cX)(b:VS){n:Nat}(h:j' a+1=n):(a++c::b).take n=a++[c]:=by
 grind [List.take_append,aix]
theorem acN{k:Nat}:∀{n:Nat} {a b:VS},j' a=n->ml k (a++b) n=ml k a n:=by
 intro n;induction n with
 |zero=>intro a b _;rw[ml,ml]
 |succ n c=>
  intro a b h;cases a with
  |nil=>cases h
  |cons d a=>
   grind [ml]
def xw{k n:Nat}{a:VS}(h:ml k y n=A')(b:j' y=n):ml k (y++a) n=A':=by rw[acN b,h]
structure Ob3 where
 (o0 o1 o2:cX)
 L:la
def W3(a:Ob3):VS:=[a.o0,a.o1,a.o2,.fP B',.loop a.L,.box [.wA 4],.box [.fn fy [] [.bp 5 0,.bp 6 0]]]
def acO{γ δ:Type}{step:γ->Ex->γ ⊕ δ}{p:γ->Nat}{Good:Ex->Prop}{D:γ ⊕ δ->Ob3} 
  (U:∀a,Good a->∀x∈a.kids,Good x) (o:∀x,ml 7 (W3 (D x)) 7=A') (g:∀x j i,hP 0 j=A'->ml 8 (W3 (D x)++.box j::i) 8=A')
  (ac:∀d a v,step d a=.inl v->p v<=p d+(1+cQ (ov a)))
  (al:∀(d:γ) (a:Ex) (E:cP) (j:n_ V) (ah:dt->VS->Prop),iz a E->Good a->hP 0 j=A'->p d+dm a<4294967296->(∀v,step d a=.inl v->∀i,ah (.ret (cj A')) (W3 (D (.inl v))++.box j::i))->(∀s,step d a=.inr s->∀i,ah (.ret (cj B')) (W3 (D (.inr s))++.box j::i))->
   jF C cm 4 [.agg (E.map V.d)] (W3 (D (.inl d))++[.box j]) ah) (n:Nat)
  (ap:∀(a:Ex) (E:cP) (d:γ),dm a<=n->iz a E->Good a->p d+dm a<4294967296->b7 C cm fy [.agg (E.map V.d),.bp 5 0,.bp 6 0] (W3 (D (.inl d))) λag l=>∃x,ma step a d=x/\l=W3 (D x)/\ag=.ret (cj x.isLeft))
  (a:Ex) (E:cP) (d:γ) (ay:dm a<=n+1) (z:iz a E) (K:Good a) (O:p d+dm a<4294967296):
  b7 C cm fy [.agg (E.map V.d),.bp 5 0,.bp 6 0] (W3 (D (.inl d))) λag l=>∃x,ma step a d=x/\l=W3 (D x)/\ag=.ret (cj x.isLeft):=by
 obtain⟨k,m,A,G,num,ty,J,ak,rfl⟩:=z.eight;have av:=gT a;refine cD ?_;refine al d a _ (qm k m A G num ty J ak) _ z K Z O (λf I i=>?_) (λs I i=>?_)
 ·have T:=z.ae6.1;have ar:=ac d a f I;have B:=U a K;have ad:ma step a d=gI step a.kids f:=by rw[p4,I]
  rw[ad];have M:dn a.kids<=n:=om;have Y:p f+dn a.kids<4294967296:=om;generalize a.kids=b at T M Y B;have aq:=lH b;cases T with
  |nil=>
   refine ck.loop ?_;refine cV.drop 7 (E7 7 _ _ Z) (xw (o _) Z) Z ?_;exact cV.now Z ⟨_,Z,Z,Z⟩
  |ps h=>
   rename_i am aj t w;have Q:=h.len;refine ck.iter (λq:Nat×γ=>[(12,.d (.ps am aj 8 t w)),(13,cl (j' b)),(14,cl q.1),(2,.bp 6 0)]) (λq=>W3 (D (.inl q.2))++[.box (qm k m A G num ty J (.ps am aj 8 t w))]) (λq=>j' b-q.1) (λq=>q.1<=j' b/\gI step (b.take q.1) f=.inl q.2/\p q.2<=p f+dn (b.take q.1)) ?_ (0,f) ⟨aiw _,by rw[aiX];try rfl,aiV _ _⟩ (.drop 8 ⟨Z,int_eq (by rw[Q]),Z,Z,tv⟩ (Qg 8 _ _ _ Z) Z (g _ _ _ Z) Z Z Z (by exact Lt _ _ _ rfl));rintro⟨y,F⟩ ⟨X,e,S⟩;have X:y<=j' b:=X;have e:gI step (b.take y) f=.inl F:=e;have S:p F<=p f+dn (b.take y):=S;apply aZ<;>intro ae
   ·have c:y<j' b:=eK ae;have⟨E,an,u⟩:=h.get c;refine bZ Z ?_;obtain⟨ao,ai,P,W,H,ab,aa,L,rfl⟩:=u.eight;refine cp _ (by rw[cx];exact an) ?_;have aw:=mJ (aiv c);have N:=vX c;have au:=rf b (y+1);refine(ap b[y] _ F om u (B _ (aiv c)) om).pre [.box (qm k m A G num ty J (.ps am aj 8 t w)),.box (qm ao ai P W H ab aa L)] (o _) Z (λag l h=>?_);obtain⟨x,R,rfl,rfl⟩:=h;refine⟨Z,o _,Z,?_⟩;have r:=xu step c e;rw[R]at r;cases x with
    |inl af=>
     have ax:=UJ ac _ _ _ R;refine⟨(y+1,af),⟨c,r,by show p af<=_;rw[N];omega⟩,ik,.drop 8 ⟨Z,Z,int_eq (cF om),Z,tv⟩ Z Z (g _ _ _ Z) Z Z Z Z,Z,Z⟩
    |inr s=>
     refine cV.drop 7 Z (xw (o _) Z) Z ?_;refine cV.now Z ⟨.inr s,?_,Z,Z⟩;exact xv step r
   have c:j' b<=y:=dK ae;rw[aix c]at e;refine cV.drop 7 Z (xw (o _) Z) Z ?_;exact cV.now Z ⟨_,e,Z,Z⟩
 refine cV.drop 7 (E7 7 _ _ Z) (xw (o _) Z) Z ?_;exact cV.now Z ⟨.inr s,by rw[p4,I],Z,Z⟩
def afa{γ δ:Type}{step:γ->Ex->γ ⊕ δ}{B:γ->Nat}{Good:Ex->Prop}{S:γ ⊕ δ->Ob3} 
  (i:∀a,Good a->∀x∈a.kids,Good x) (o:∀x,ml 7 (W3 (S x)) 7=A') (k:∀x b d,hP 0 b=A'->ml 8 (W3 (S x)++.box b::d) 8=A')
  (v:∀c a e,step c a=.inl e->B e<=B c+(1+cQ (ov a)))
  (r:∀(c:γ) (a:Ex) (f:cP) (b:n_ V) (l:dt->VS->Prop),iz a f->Good a->hP 0 b=A'->B c+dm a<4294967296->(∀e,step c a=.inl e->∀d,l (.ret (cj A')) (W3 (S (.inl e))++.box b::d))->(∀w,step c a=.inr w->∀d,l (.ret (cj B')) (W3 (S (.inr w))++.box b::d))->
   jF C cm 4 [.agg (f.map V.d)] (W3 (S (.inl c))++[.box b]) l):
  ∀(n:Nat) (a:Ex) (f:cP) (c:γ),dm a<=n->iz a f->Good a->B c+dm a<4294967296->b7 C cm fy [.agg (f.map V.d),.bp 5 0,.bp 6 0] (W3 (S (.inl c))) λD j=>∃x,ma step a c=x/\j=W3 (S x)/\D=.ret (cj x.isLeft):=by
 intro n;induction n with
 |zero=>intro a f c h;have:=jn a;omega
 |succ n t=>intro a f c q m s p;exact acO i o k v r n t a f c q m s p
structure Ob5 where
 (o0 o1 o2 o3 o4:cX)
 L:la
def W5(a:Ob5):VS:=[a.o0,a.o1,a.o2,a.o3,a.o4,.fP B',.loop a.L,.box [.wA 6],.box [.fn fy [] [.bp 7 0,.bp 8 0]]]
def acP{γ δ:Type}{step:γ->Ex->γ ⊕ δ}{p:γ->Nat}{Good:Ex->Prop}{D:γ ⊕ δ->Ob5} 
  (U:∀a,Good a->∀x∈a.kids,Good x) (o:∀x,ml 9 (W5 (D x)) 9=A') (g:∀x j i,hP 0 j=A'->ml 10 (W5 (D x)++.box j::i) 10=A')
  (ac:∀d a v,step d a=.inl v->p v<=p d+(1+cQ (ov a)))
  (al:∀(d:γ) (a:Ex) (E:cP) (j:n_ V) (ah:dt->VS->Prop),iz a E->Good a->hP 0 j=A'->p d+dm a<4294967296->(∀v,step d a=.inl v->∀i,ah (.ret (cj A')) (W5 (D (.inl v))++.box j::i))->(∀s,step d a=.inr s->∀i,ah (.ret (cj B')) (W5 (D (.inr s))++.box j::i))->
   jF C cm 6 [.agg (E.map V.d)] (W5 (D (.inl d))++[.box j]) ah) (n:Nat)
  (ap:∀(a:Ex) (E:cP) (d:γ),dm a<=n->iz a E->Good a->p d+dm a<4294967296->b7 C cm fy [.agg (E.map V.d),.bp 7 0,.bp 8 0] (W5 (D (.inl d))) λag l=>∃x,ma step a d=x/\l=W5 (D x)/\ag=.ret (cj x.isLeft))
  (a:Ex) (E:cP) (d:γ) (ay:dm a<=n+1) (z:iz a E) (K:Good a) (O:p d+dm a<4294967296):
  b7 C cm fy [.agg (E.map V.d),.bp 7 0,.bp 8 0] (W5 (D (.inl d))) λag l=>∃x,ma step a d=x/\l=W5 (D x)/\ag=.ret (cj x.isLeft):=by
 obtain⟨k,m,A,G,num,ty,J,ak,rfl⟩:=z.eight;have av:=gT a;refine cD ?_;refine al d a _ (qm k m A G num ty J ak) _ z K Z O (λf I i=>?_) (λs I i=>?_)
 ·have T:=z.ae6.1;have ar:=ac d a f I;have B:=U a K;have ad:ma step a d=gI step a.kids f:=by rw[p4,I]
  rw[ad];have M:dn a.kids<=n:=om;have Y:p f+dn a.kids<4294967296:=om;generalize a.kids=b at T M Y B;have aq:=lH b;cases T with
  |nil=>
   refine ck.loop ?_;refine cV.drop 9 (E7 9 _ _ Z) (xw (o _) Z) Z ?_;exact cV.now Z ⟨_,Z,Z,Z⟩
  |ps h=>
   rename_i am aj t w;have Q:=h.len;refine ck.iter (λq:Nat×γ=>[(12,.d (.ps am aj 8 t w)),(13,cl (j' b)),(14,cl q.1),(2,.bp 8 0)]) (λq=>W5 (D (.inl q.2))++[.box (qm k m A G num ty J (.ps am aj 8 t w))]) (λq=>j' b-q.1) (λq=>q.1<=j' b/\gI step (b.take q.1) f=.inl q.2/\p q.2<=p f+dn (b.take q.1)) ?_ (0,f) ⟨aiw _,by rw[aiX];try rfl,aiV _ _⟩ (.drop 10 ⟨Z,int_eq (by rw[Q]),Z,Z,tv⟩ (Qg 10 _ _ _ Z) Z (g _ _ _ Z) Z Z Z (by exact Lt _ _ _ rfl));rintro⟨y,F⟩ ⟨X,e,S⟩;have X:y<=j' b:=X;have e:gI step (b.take y) f=.inl F:=e;have S:p F<=p f+dn (b.take y):=S;apply aZ<;>intro ae
   ·have c:y<j' b:=eK ae;have⟨E,an,u⟩:=h.get c;refine bZ Z ?_;obtain⟨ao,ai,P,W,H,ab,aa,L,rfl⟩:=u.eight;refine cp _ (by rw[cx];exact an) ?_;have aw:=mJ (aiv c);have N:=vX c;have au:=rf b (y+1);refine(ap b[y] _ F om u (B _ (aiv c)) om).pre [.box (qm k m A G num ty J (.ps am aj 8 t w)),.box (qm ao ai P W H ab aa L)] (o _) Z (λag l h=>?_);obtain⟨x,R,rfl,rfl⟩:=h;refine⟨Z,o _,Z,?_⟩;have r:=xu step c e;rw[R]at r;cases x with
    |inl af=>
     have ax:=UJ ac _ _ _ R;refine⟨(y+1,af),⟨c,r,by show p af<=_;rw[N];omega⟩,ik,.drop 10 ⟨Z,Z,int_eq (cF om),Z,tv⟩ Z Z (g _ _ _ Z) Z Z Z Z,Z,Z⟩
    |inr s=>
     refine cV.drop 9 Z (xw (o _) Z) Z ?_;refine cV.now Z ⟨.inr s,?_,Z,Z⟩;exact xv step r
   have c:j' b<=y:=dK ae;rw[aix c]at e;refine cV.drop 9 Z (xw (o _) Z) Z ?_;exact cV.now Z ⟨_,e,Z,Z⟩
 refine cV.drop 9 (E7 9 _ _ Z) (xw (o _) Z) Z ?_;exact cV.now Z ⟨.inr s,by rw[p4,I],Z,Z⟩
def afb{γ δ:Type}{step:γ->Ex->γ ⊕ δ}{B:γ->Nat}{Good:Ex->Prop}{S:γ ⊕ δ->Ob5} 
  (i:∀a,Good a->∀x∈a.kids,Good x) (o:∀x,ml 9 (W5 (S x)) 9=A') (k:∀x b d,hP 0 b=A'->ml 10 (W5 (S x)++.box b::d) 10=A')
  (v:∀c a e,step c a=.inl e->B e<=B c+(1+cQ (ov a)))
  (r:∀(c:γ) (a:Ex) (f:cP) (b:n_ V) (l:dt->VS->Prop),iz a f->Good a->hP 0 b=A'->B c+dm a<4294967296->(∀e,step c a=.inl e->∀d,l (.ret (cj A')) (W5 (S (.inl e))++.box b::d))->(∀w,step c a=.inr w->∀d,l (.ret (cj B')) (W5 (S (.inr w))++.box b::d))->
   jF C cm 6 [.agg (f.map V.d)] (W5 (S (.inl c))++[.box b]) l):
  ∀(n:Nat) (a:Ex) (f:cP) (c:γ),dm a<=n->iz a f->Good a->B c+dm a<4294967296->b7 C cm fy [.agg (f.map V.d),.bp 7 0,.bp 8 0] (W5 (S (.inl c))) λD j=>∃x,ma step a c=x/\j=W5 (S x)/\D=.ret (cj x.isLeft):=by
 intro n;induction n with
 |zero=>intro a f c h;have:=jn a;omega
 |succ n t=>intro a f c q m s p;exact acP i o k v r n t a f c q m s p
def Xg(n:cC){x a:Ex}(hl:e9 [] F)(hk:gn [x,a] G):im 10 [] n [] 0 .cu F G (fm [110] 0 B' 2):=by
 exact Ki
def aaq{ty:D}(ht:ft [O] ty){x:Ex}(b:e9 [] F)(a:gn [x] G):im 11 [] [] [] 0 ty F G (fm [] 1 B' 1):=by
 unfold im;rcases b.dB with rfl|⟨d,l,k,rfl⟩<;>obtain⟨h,j,c,d1,rfl⟩:=a.one<;>obtain⟨i,e,f,d0,rfl⟩:=ht.pE<;>exact fitAll
def Xh{ty:D}(ht:ft [O] ty){x a b:Ex}(hl:e9 [] F)(hk:gn [x,a,b] G):im 12 [] [] [] 0 ty F G (fm [] 1 B' 3):=by
 exact JH
def aar{ty:D}(ht:ft [O] ty){kids:n_ Ex}(a:e9 [] F)(b:gn kids G):im 14 [] [] [] 0 ty F G (fm [] 1 B' (-1)):=by
 unfold im;rcases a.dB with rfl|⟨c,i,h,rfl⟩<;>obtain⟨f,d,e,d0,rfl⟩:=ht.pE<;>exact fitAll
def Xi{ty:D}(n c:cC)(ht:ft [O] ty){x a b:Ex}(hl:e9 [] F)(hk:gn [x,a,b] G):im 15 [] n c 0 ty F G (fm [110,120] 1 B' 3):=by
 exact JH
def aas{n:cC}(a:n∈Ri){x:Ex}(hl:e9 [] F)(hk:gn [x] G):im 16 [] n [] 0 .cu F G (fm [110] 0 B' (-1)):=by
 exact Ck
def aat{n:cC}(b:n∈EB){x a:Ex}(hl:e9 [] F)(hk:gn [x,a] G):im 16 [] n [] 0 .cu F G (fm [110] 0 B' (-1)):=by
 exact Ki
def G4(h:c8 A=A')(a:g (.ret (cj A')) y):b7 C cm wS [cv A] y g:=
 jo A (nL h) (by rw[h];exact a)
def vo(k:Nat)(m n x:cC)(num:Int)(ty c b:D)(d:V):Prop:=b7 C cm Bf [Yi k m n x num ty c b,d] [] λe a=>a=[]/\e=.ret (cj B')
def p5 (h:M:=by
 have lj:=hw.name;have hvr:=hw.var;unfold vo;refine cD ?_;repeat' first|(change kE _ _ _;first|refine b9 (by with_reducible assumption) ?_|refine a7 (by with_reducible assumption) ?_)|refine ei (args:=[.str _,.str _]) (x:=.bool A') rfl rfl ?_|refine ei (args:=[.str _,.str _]) (x:=.bool B') rfl rfl ?_|refine G4 (by assumption) ?_|refine nh _ (by assumption) ?_|(show b7 C cm qy _ _ _;refine cA ?_)
 refine qE Z _ labels hl hlen (λj hj d hd K hk=>?_) ?_
 ·obtain⟨tk,tm,tn,ta,tf,rfl⟩:=hd.dL;have hnj:=lj _ (List.getElem_mem hj);have hvj:=hvr _ (List.getElem_mem hj);simp at hvj;refine cD ?_;repeat' first|(change kE _ _ _;first|refine b9 (by with_reducible assumption) ?_|refine a7 (by with_reducible assumption) ?_)|refine ei (args:=[.str _,.str _]) (x:=.bool A') rfl rfl ?_|refine ei (args:=[.str _,.str _]) (x:=.bool B') rfl rfl ?_|refine G4 (by assumption) ?_|refine nh _ (by assumption) ?_|(show b7 C cm qy _ _ _;refine cA ?_)
  exact a8 3 hk
 exact a8 0 ⟨Z,Z⟩):M:=h
def agF{x:cC}{num:Int}{ty a b:D}{labels:n_ ij}(hl:e9 labels a)(hlen:j' labels<4294967296)(hw:my 0 labels):vo 0 [] [] x num ty a b (fm [98] 0 B' 0):=by
 exact p5
def agG{x:cC}{num:Int}{ty a b:D}{labels:n_ ij}(hl:e9 labels a)(hlen:j' labels<4294967296)(hw:my 1 labels):vo 1 [] [] x num ty a b (fm [120] 0 B' 0):=by
 exact p5
def agH{x:cC}{num:Int}{ty a b:D}{labels:n_ ij}(hl:e9 labels a)(hlen:j' labels<4294967296)(hw:my 2 labels):vo 2 [] [] x num ty a b (fm [98] 0 B' 0):=by
 exact p5
def agI{n x:cC}{num:Int}{ty a b:D}{labels:n_ ij}(c:c8 n=A')(hl:e9 labels a)(hlen:j' labels<4294967296)(hw:my 3 labels):vo 3 [] n x num ty a b (fm [110] 0 B' 0):=by
 exact p5
def agJ{m n x:cC}{num:Int}{ty a b:D}{labels:n_ ij}(c:m=[]∨c8 m=A')(e:c8 n=A')(hl:e9 labels a)(hlen:j' labels<4294967296)(hw:my 4 labels):vo 4 m n x num ty a b (fm [109,110] (-1) B' 0):=by
 exact p5
def agK{x:cC}{num:Int}{ty a b:D}{labels:n_ ij}(hl:e9 labels a)(hlen:j' labels<4294967296)(hw:my 5 labels):vo 5 [] [] x num ty a b (fm [] 0 A' 0):=by
 exact p5
def agL{n x:cC}{num:Int}{ty a b:D}{labels:n_ ij}(c:c8 n=A')(hl:e9 labels a)(hlen:j' labels<4294967296)(hw:my 6 labels):vo 6 [] n x num ty a b (fm [110] 0 B' 1):=by
 exact p5
def agM{n x:cC}{num:Int}{ty a b:D}{labels:n_ ij}(c:c8 n=A')(hl:e9 labels a)(hlen:j' labels<4294967296)(hw:my 7 labels):vo 7 [] n x num ty a b (fm [110] 0 B' 1):=by
 exact p5
def agN{x:cC}{num:Int}{ty a b:D}{labels:n_ ij}(hl:e9 labels a)(hlen:j' labels<4294967296)(hw:my 8 labels):vo 8 [] [] x num ty a b (fm [116,111] 0 A' 1):=by
 exact p5
def agO{x:cC}{num:Int}{ty a b:D}{labels:n_ ij}(hl:e9 labels a)(hlen:j' labels<4294967296)(hw:my 9 labels):vo 9 [] [] x num ty a b (fm [] 0 A' 1):=by
 exact p5
def afc{n x:cC}{num:Int}{ty a b:D}{labels:n_ ij}(c:c8 n=A')(hl:e9 labels a)(hlen:j' labels<4294967296)(hw:my 10 labels):vo 10 [] n x num ty a b (fm [110] 0 B' 2):=by
 exact p5
def afd{x:cC}{num:Int}{ty a b:D}{labels:n_ ij}(hl:e9 labels a)(hlen:j' labels<4294967296)(hw:my 11 labels):vo 11 [] [] x num ty a b (fm [] 1 B' 1):=by
 exact p5
def afe{x:cC}{num:Int}{ty a b:D}{labels:n_ ij}(hl:e9 labels a)(hlen:j' labels<4294967296)(hw:my 12 labels):vo 12 [] [] x num ty a b (fm [] 1 B' 3):=by
 exact p5
def aff{x:cC}{num:Int}{ty a b:D}{labels:n_ ij}(hl:e9 labels a)(hlen:j' labels<4294967296)(hw:my 13 labels):vo 13 [] [] x num ty a b (fm [118] 1 A' 1):=by
 exact p5
def afg{x:cC}{num:Int}{ty a b:D}{labels:n_ ij}(hl:e9 labels a)(hlen:j' labels<4294967296)(hw:my 14 labels):vo 14 [] [] x num ty a b (fm [] 1 B' (-1)):=by
 exact p5
def afh{n x:cC}{num:Int}{ty a b:D}{labels:n_ ij}(e:c8 n=A')(c:c8 x=A')(hl:e9 labels a)(hlen:j' labels<4294967296)(hw:my 15 labels):vo 15 [] n x num ty a b (fm [110,120] 1 B' 3):=by
 exact p5
def aau{n x:cC}{num:Int}{ty a b:D}{labels:n_ ij}(hl:e9 labels a)(hlen:j' labels<4294967296)(hw:my 16 labels):vo 16 [] n x num ty a b (fm [110] 0 B' (-1)):=by
 exact p5
def G5{k:Nat}(c:k≠16)(e:k≠8){m n x s:cC}{num v:Int}{ty b i:D}{labels:n_ ij}(f:e9 labels b)(l:j' labels<4294967296)(p:u<4:=by decide):
  b7 C cm zh [Yi k m n x num ty b i,fm s v U (ait u)] [] λr a=>a=[]/\r=.ret (cl (u+j' labels)):=by
 have q:decide (ait k=16)=B':=Z' λj=>c (by simp only[ais]at j;omega);have t:decide (ait k=8)=B':=Z' λj=>e (by simp only[ais]at j;omega);refine cD ?_;have o:decide (ait u<0)=B':=Z' (by simp only[ais];omega);refine cN ?_;cases f with
 |nil=>exact a8 0 ⟨rfl,d_ (λx=>dt.ret (V.d (D.int .i64 x))) (dk (b:=0) om)⟩
 |ps h=>
  have d:=h.len;exact a8 0 ⟨Z,d_ (λx=>dt.ret (V.d (D.int .i64 x))) ((dk om).trans (by rw[d]))⟩
theorem Dl(h:u<j' W):Dd (W.take (u+1))=Dd (W.take u)+if W[u].lM then 1 else 0:=by
 grind [aiJ,Dd,aiB,ai4]
def Nq(a:n_ ij):Dd a<=j' a:=List.length_filter_le _ _
def Xj{m n x s:cC}{num I:Int}{ty p j:D}{f:Int}{labels:n_ ij}(w:e9 labels p)(v:j' labels<4294967296):
  b7 C cm zh [Yi 8 m n x num ty p j,fm s I U f] [] λK o=>o=[]/\K=.ret (cl (Dd labels+1)):=by
 refine cD ?_;cases w with
 |nil=>
  exact iH
 |ps h=>
  rename_i B t d e;have k:=h.len;refine ck.less (fx:=[(5,cl 1),(20,.d (.ps B t 8 d e)),(21,cl (j' labels)),(22,cl 0)]) ⟨Z,Z,int_eq (by rw[k]),Z,tv⟩ ?_;refine ck.iter (λc:Nat=>[(5,cl (Dd (labels.take c)+1)),(20,.d (.ps B t 8 d e)),(21,cl (j' labels)),(22,cl c)]) (λ_=>[.box (qm 8 m n x num ty (.ps B t 8 d e) j),.box [cv s,.d (.int .i64 I),cj U,.d (.int .i64 f)]]) (λc=>j' labels-c) (λc=>c<=j' labels) ?_ 0 (aiw _);intro c g;apply aZ<;>intro r
  ·have a:c<j' labels:=eK r;have⟨y,E,q⟩:=h.get a;obtain⟨R,u,tn,S,V,rfl⟩:=q.dL;have b:=Dl a;have i:=Nq (labels.take c);rw[aiG]at i;refine bZ Z ?_;refine cp _ (by rw[cx];exact E) ?_;apply aZ<;>intro l
   ·rw[l]at b;refine⟨c+1,a,ik,.drop 2 ⟨int_eq ?_,Z,Z,int_eq (cF om),tv⟩ Z Z Z Z Z Z Z,Z,Z⟩;rw[b];exact cF om
   rw[l]at b;refine⟨c+1,a,ik,.drop 2 ⟨int_eq ?_,Z,Z,int_eq (cF om),tv⟩ Z Z Z Z Z Z Z,Z,Z⟩;rw[b];try rfl
  have a:j' labels<=c:=dK r;rw[aix a];exact a8 0 ⟨Z,Z⟩
def mK(h:u=N):(!decide (ait u=ait N))=B':=by simp[h]
def acQ (h:M:=by
 rcases hl.inv with⟨_,rfl⟩|⟨b,o,c,els,rfl,hll⟩;all_goals
  rcases hk.inv with⟨hke,rfl⟩|⟨b2,o2,c2,oe,rfl,hkl⟩
  ·subst hke;have hkn:0=_:=hkn;have hN:=mK hkn;have hN':(!decide ((0:Int)=Int.ofNat _))=B':=hN;repeat' first|(change kE _ _ _;first|refine b9 (by with_reducible assumption) ?_|refine a7 (by with_reducible assumption) ?_|refine aZ (λ_=>?_) (λ_=>?_))|refine ei (args:=[.str _,.str _]) (x:=.bool A') rfl rfl ?_|refine ei (args:=[.str _,.str _]) (x:=.bool B') rfl rfl ?_|refine fin ?_|(show b7 C cm mG _ _ _;refine cA ?_)
   all_goals first|exact a8 0 ⟨rfl,rfl⟩|(exact Y' hkn om)
  have hN:=mK (hkl.len.trans hkn);repeat' first|(change kE _ _ _;first|refine b9 (by with_reducible assumption) ?_|refine a7 (by with_reducible assumption) ?_|refine aZ (λ_=>?_) (λ_=>?_))|refine ei (args:=[.str _,.str _]) (x:=.bool A') rfl rfl ?_|refine ei (args:=[.str _,.str _]) (x:=.bool B') rfl rfl ?_|refine fin ?_|(show b7 C cm mG _ _ _;refine cA ?_)
  all_goals exact a8 0 ⟨rfl,rfl⟩):M:=h
def aeq (h:M:=by
 refine cD ?_;repeat' first|(change kE _ _ _;first|refine b9 (by with_reducible assumption) ?_|refine a7 (by with_reducible assumption) ?_|refine aZ (λ_=>?_) (λ_=>?_))|refine ei (args:=[.str _,.str _]) (x:=.bool A') rfl rfl ?_|refine ei (args:=[.str _,.str _]) (x:=.bool B') rfl rfl ?_|refine vk hd ?_|refine BM hd (λ_=>?_)|(show b7 C cm mG _ _ _;refine cA ?_)
 all_goals exact a8 3 hk):M:=h
def Qh(k:Nat)(ty b a:D)(d:cC)(e:Int)(f:Bool)(c:Int):VS:=[.box (qm k [] [] [] 0 ty b a),.box [cv d,.d (.int .i64 e),cj f,.d (.int .i64 c)],.box [.fn mG [] [.bp 1 0]]]
def aav{labels:n_ ij}{kids:n_ Ex}(hl:e9 labels F)(hlen:j' labels<4294967296)(hw:my 5 labels)(hk:gn kids G)(hkn:j' kids=0+j' labels):im 5 [] [] [] 0 .cu F G (fm [] 0 A' 0):=by
 have fin:∀{K:dt->VS->Prop},K (.ret (cj B')) (Qh 5 .cu F G [] 0 A' 0)->b7 C cm eB [.d F,.fn mH [] [.bp 2 0]] (Qh 5 .cu F G [] 0 A' 0) K:=by
  intro K hK;exact I6
 unfold im;refine cD ?_;refine cI (G5 (k:=5) dc dc hl hlen) Z Z ?_;exact acQ
def Xk{labels:n_ ij}{kids:n_ Ex}(hl:e9 labels F)(hlen:j' labels<4294967296)(hw:my 9 labels)(hk:gn kids G)(hkn:j' kids=1+j' labels):im 9 [] [] [] 0 .cu F G (fm [] 0 A' 1):=by
 have fin:∀{K:dt->VS->Prop},K (.ret (cj B')) (Qh 9 .cu F G [] 0 A' 1)->b7 C cm eB [.d F,.fn mH [] [.bp 2 0]] (Qh 9 .cu F G [] 0 A' 1) K:=by
  intro K hK;exact I6
 unfold im;refine cD ?_;refine cI (G5 (k:=9) dc dc hl hlen) Z Z ?_;exact acQ
def aaw{ty:D}(ht:ft [O] ty){labels:n_ ij}{kids:n_ Ex}(hl:e9 labels F)(a:j' labels<4294967296)(i:my 13 labels)(hk:gn kids G)(hkn:j' kids=1+j' labels):im 13 [] [] [] 0 ty F G (fm [118] 1 A' 1):=by
 obtain⟨h,l,f,d9,rfl⟩:=ht.pE;have fin:∀{m:dt->VS->Prop},m (.ret (cj B')) (Qh 13 (.ps h l 5 f [d9]) F G [118] 1 A' 1)->b7 C cm eB [.d F,.fn mH [] [.bp 2 0]] (Qh 13 (.ps h l 5 f [d9]) F G [118] 1 A' 1) m:=by
  intro m n;refine qE Z _ labels hl a (λq j t hd m hk=>?_) n;have e:=i.var _ (aiv j);have d:=i.ty _ (aiv j);generalize labels[q]=B at e d hd;have⟨v,w,s,r⟩:=B;simp at e d;obtain⟨rfl,rfl⟩:=d;have p:=acG e;have hd:fF cY t:=hd;rcases zj hd with rfl|⟨b,o,c,rfl⟩;all_goals exact aeq
 unfold im;refine cD ?_;refine cI (G5 (k:=13) dc dc hl a) Z Z ?_;exact acQ
def Xl{labels:n_ ij}{kids:n_ Ex}(hl:e9 labels F)(a:j' labels<4294967296)(f:my 8 labels)(hk:gn kids G)(hkn:j' kids=Dd labels+1):im 8 [] [] [] 0 .cu F G (fm [116,111] 0 A' 1):=by
 have fin:∀{i:dt->VS->Prop},i (.ret (cj B')) (Qh 8 .cu F G [116,111] 0 A' 1)->b7 C cm eB [.d F,.fn mH [] [.bp 2 0]] (Qh 8 .cu F G [116,111] 0 A' 1) i:=by
  intro i j;refine qE Z _ labels hl a (λk h w hd i hk=>?_) j;have d:=f.var _ (aiv h);have e:=f.ty _ (aiv h);generalize labels[k]=v at d e hd;have⟨r,s,n,t⟩:=v;simp at d e;subst d;obtain⟨l,q,tn,m,p,rfl⟩:=hd.dL;exact aeq
 unfold im;refine cD ?_;refine cI (Xj hl a) Z Z ?_;exact acQ
def ah3(k:Nat)(m n x:cC)(num:Int)(ty b a:D):Prop:=∃h d e f c,je (.int .i64) (cl k) aab 0=q' (q' (h,fm d e f c))/\im k m n x num ty b a (fm d e f c)/\vo k m n x num ty b a (fm d e f c)
def jb(k:Nat):my k []:=⟨by simp,List.Pairwise.nil,by simp,by simp⟩
def agP{k:Nat}{m n x:cC}{num:Int}{types:n_ Ty}{labels:n_ ij}{kids:n_ Ex}{ty l j:D}(h:gH (.mk k m n x num types labels kids))(ht:ft types ty)(a:e9 labels l)(b:gn kids j)(c:j' labels<4294967296):ah3 k m n x num ty l j:=by
 have e:j' ([]:n_ ij)<4294967296:=dc;cases h with
 |int=>obtain rfl:=ht.dB;exact⟨0,_,_,_,_,rfl,fits_int _ a b,agF a e (jb 0)⟩
 |text=>obtain rfl:=ht.dB;exact⟨1,_,_,_,_,rfl,W0 _ a b,agG a e (jb 1)⟩
 |bool=>obtain rfl:=ht.dB;exact⟨2,_,_,_,_,rfl,fits_bool _ a b,agH a e (jb 2)⟩
 |loc d=>obtain rfl:=ht.dB;exact⟨3,_,_,_,_,rfl,aac _ a b,agI d a e (jb 3)⟩
 |val o d _ _=>exact⟨4,_,_,_,_,rfl,aad _ _ _ a b,agJ o d a e (jb 4)⟩
 |ZU f i=>obtain rfl:=ht.dB;exact⟨5,_,_,_,_,rfl,aav a c f b om,agK a c f⟩
 |acE d=>obtain rfl:=ht.dB;exact⟨6,_,_,_,_,rfl,W1 _ a b,agL d a e (jb 6)⟩
 |inj d=>obtain rfl:=ht.dB;exact⟨7,_,_,_,_,rfl,aae _ a b,agM d a e (jb 7)⟩
 |func f i=>obtain rfl:=ht.dB;exact⟨8,_,_,_,_,rfl,Xl a c f b i,agN a c f⟩
 |call f i=>obtain rfl:=ht.dB;exact⟨9,_,_,_,_,rfl,Xk a c f b om,agO a c f⟩
 |acF d=>obtain rfl:=ht.dB;exact⟨10,_,_,_,_,rfl,Xg _ a b,afc d a e (jb 10)⟩
 |asc _=>exact⟨11,_,_,_,_,rfl,aaq ht a b,afd a e (jb 11)⟩
 |cond _=>exact⟨12,_,_,_,_,rfl,Xh ht a b,afe a e (jb 12)⟩
 |mat _ f i=>exact⟨13,_,_,_,_,rfl,aaw ht a c f b om,aff a c f⟩
 |lst _=>exact⟨14,_,_,_,_,rfl,aar ht a b,afg a e (jb 14)⟩
 |fold _ d p=>exact⟨15,_,_,_,_,rfl,Xi _ _ ht a b,afh d p a e (jb 15)⟩
 |one d=>obtain rfl:=ht.dB;exact⟨16,_,_,_,_,rfl,aas d a b,aau a e (jb 16)⟩
 |two d=>obtain rfl:=ht.dB;exact⟨16,_,_,_,_,rfl,aat d a b,aau a e (jb 16)⟩
def gH.aaf{k:Nat}{m n x:cC}{num:Int}{types:n_ Ty}{labels:n_ ij}{kids:n_ Ex}(h:gH (.mk k m n x num types labels kids)):my k labels:=by
 cases h<;>first|exact jb _|assumption
def gH.agQ{k:Nat}{m n x:cC}{num:Int}{types:n_ Ty}{labels:n_ ij}{kids:n_ Ex}(h:gH (.mk k m n x num types labels kids))(a:k=8):types=[]:=by
 cases h<;>first|rfl|omega
def gH.all(h:gH Q):∀a∈ov Q,hO a:=by
 have e:∀{k:Nat} {labels:n_ ij},my k labels->∀a∈(if k=8 then labels.map ij.ty else []),hO a:=fun{k labels} b a ht=>by
  split at ht
  ·rename_i c;obtain⟨x,f,rfl⟩:=aiU.1 ht;have:=b.ty x f;rwa[X' c]at this
  simp at ht
 have⟨k,m,n,x,num,types,labels,kids⟩:=Q;intro a ht;rw[ov]at ht;rcases aiI.1 ht with h1|h1
 ·cases h<;>first|(simp at h1;done)|(simp at h1;subst h1;assumption)|(rename_i d _;exact d a h1)
 exact e h.aaf a h1
def qC:Ex->Nat
 |.mk k m n x num types labels kids=>if 32<j' labels∨8<j' types∨65536<j' x then 7 else if k=15/\n=x then 5 else xk ((types++if k=8 then labels.map ij.ty else []).any p3)
section
variable{k:Nat} {m n x:cC} {num:Int} {types:n_ Ty} {labels:n_ ij} {kids:n_ Ex}
def IH(h:32<j' labels∨8<j' types∨65536<j' x):qC (.mk k m n x num types labels kids)=7:=by rw[qC,X' h]
def G6(h:¬(32<j' labels∨8<j' types∨65536<j' x))(a:k=15)(b:n=x):qC (.mk k m n x num types labels kids)=5:=by rw[qC,W' h,X' ⟨a,b⟩]
def Lu(h:¬(32<j' labels∨8<j' types∨65536<j' x))(a:¬(k=15/\n=x)):qC (.mk k m n x num types labels kids)=xk ((ov (.mk k m n x num types labels kids)).any p3):=by rw[qC,W' h,W' a,ov]
end
variable{J:n_ Ty}
def ft.inv(h:ft J F):(J=[]/\F=.cu)∨∃b d c a,F=.ps b d 5 c a/\dZ J a:=by
 cases h with
 |nil=>exact .inl ⟨rfl,rfl⟩
 |ps h _=>exact .inr ⟨_,_,_,_,rfl,h⟩
def agR:Nat->Bool:=λa=>aiR a 1000008||aiR a 1000013
def Vb(k:Nat)(m n x:cC)(num:Int)(ty b a:D)(d:cC)(e:Int)(f:Bool)(c:Int):VS:=[Nj,.box (qm k m n x num ty b a),.box [cv d,.d (.int .i64 e),cj f,.d (.int .i64 c)]]
def Qi(h:u<j' J)(a:p3 J[u]=A'):J.any p3=A':=List.any_eq_true.2 ⟨_,aiv h,a⟩
theorem any_none(h:∀a (b:a<j' J),p3 J[a]=B'):J.any p3=B':=by
 grind [List.any_eq_false,List.mem_iff_getElem.1]
def S7{k:Nat}{m n x:cC}{num:Int}{types:n_ Ty}{labels:n_ ij}{kids:n_ Ex}{ty lb kd:D}(h:gH (.mk k m n x num types labels kids))(ht:ft types ty)(hl:e9 labels lb)(hk:gn kids kd)(E:j' types+j' labels<4294967296)(hsz:cQ (ov (.mk k m n x num types labels kids))<4294967295):
  b7 C cm Bc [Yi k m n x num ty lb kd,.map 0] [Nj] λQ A=>A=[Nj]/\da Q=A'/\Q=.ret (cl (qC (.mk k m n x num types labels kids))):=by
 have hex:iz (.mk k m n x num types labels kids) [.int .i64 (ait k),.str m,.str n,.str x,.int .i64 num,ty,lb,kd]:=.mk ht hl hk;have⟨i,s,t,l,f,hfi,aem,ael⟩:=agP h ht hl hk om;have hw:=h.aaf;have abG:=h.all;have h8:=h.agQ;refine cB agR (λ_=>Z) ?_;refine cp (q' (i,fm s t l f)) hfi ?_;refine cI aem Z Z ?_;apply de (ι:=Unit) (T:=λ_=>[(2,.bp 1 0)]) (S:=λ_=>Vb k m n x num ty lb kd s t l f) (I:=λ_=>¬(32<j' labels∨8<j' types∨65536<j' x))
 ·intro hC;rcases hl.inv with⟨w,B5⟩|⟨z,H,ag,e,B5,R⟩
  ·have K:j' labels=0:=by rw[w];try rfl
   rcases ht.inv with⟨c,hty⟩|⟨N,J,M,B,hty,o⟩
   ·have b:j' types=0:=by rw[c];try rfl
    exact xE
   have b:=o.len;exact xE
  have K:=R.len;rcases ht.inv with⟨c,hty⟩|⟨N,J,M,B,hty,o⟩
  ·have b:j' types=0:=by rw[c];try rfl
   exact xE
  have b:=o.len;exact xE
 intro _ d;refine GW _ labels hl om hw.srt ?_;apply de (ι:=Unit) (T:=λ_=>[(2,.bp 1 0)]) (S:=λ_=>Vb k m n x num ty lb kd s t l f) (I:=λ_=>¬(k=15/\n=x))
 ·intro hC;apply aZ<;>intro u
  ·refine cN ?_;apply aZ<;>intro S
   ·refine cN ?_;exact a8 1 ⟨Z,Z,d_ (λv=>dt.ret (cl v)) (G6 d (Dw (b:=15) u) (f_ S)).symm⟩
   refine cN ?_;exact ck.arr (fx:=[(2,.bp 1 0)]) (gA:=Vb k m n x num ty lb kd s t l f) .eS (hC () (λI=>e_ S I.2))
  refine cN ?_;exact ck.arr (fx:=[(2,.bp 1 0)]) (gA:=Vb k m n x num ty lb kd s t l f) .eS (hC () (λI=>A7 (b:=15) u I.1))
 intro _ p;rw[Lu d p];refine P5 _ _ hex (λ_ _ _ _ _ _ _ _ P=>by cases P;exact h8) om (λ_ _ _ _ _ _ _ _ P=>by cases P;exact E) (λaa F=>?_);generalize ov (.mk k m n x num types labels kids)=own at F abG hsz;have T:=ey own;cases F with
 |nil=>
  refine ck.loop ?_;exact a8 1 ⟨Z,Z,Z⟩
 |ps y=>
  rename_i z H q e;have V:=y.len;refine ck.less (fx:=[(65,.d (.ps z H 5 q e)),(66,cl (j' own)),(67,cl 0)]) ⟨Z,int_eq (by rw[V]),Z,tv⟩ ?_;refine ck.iter (λi:Nat=>[(65,.d (.ps z H 5 q e)),(66,cl (j' own)),(67,cl i)]) (λ_=>Vb k m n x num ty lb kd s t l f) (λi=>j' own-i) (λi=>i<=j' own/\∀j (hj:j<j' own),j<i->p3 own[j]=B') ?_ 0 ⟨aiw _,λj _ h=>Y' h (Nat.not_lt_zero _)⟩;rintro i ⟨ad,hno⟩;apply aZ<;>intro G
  ·have a:i<j' own:=eK G;have⟨aa,O,r⟩:=y.get a;obtain⟨ae,Y,U,af,f2,rfl⟩:=r.dL;refine bZ Z ?_;refine cp _ (by rw[cx];exact O) ?_;have w:=eU (aiv a);refine xm own[i] _ r (abG _ (aiv a)) om ?_;cases hb:p3 own[i]with
   |true=>exact a8 1 ⟨rfl,rfl,by rw[Qi a hb];try rfl⟩
   |false=>
    refine⟨i+1,⟨a,λj hj W=>?_⟩,ik,.eD 3,Z,Z⟩;exact KM
  have a:j' own<=i:=dK G;exact a8 1 ⟨Z,Z,by rw[any_none λj hj=>hno j hj om];try rfl⟩
def fN.kids{a:Ex}(h:fN a):∀x∈a.kids,fN x:=by cases h with|mk _ h=>exact h
def fN.node(h:fN Q):gH Q:=by cases h with|mk h _=>exact h
def Nr(a:Nat)(b:Ex):Nat ⊕ Empty:=.inl (a+(1+cQ (ov b)))
theorem afi:∀(n:Nat) (b:Ex) (a:Nat),dm b<=n->ma Nr b a=.inl (a+dm b):=by
 intro n;induction n with
 |zero=>intro b a h;have:=jn b;omega
 |succ n f=>
  intro b a h;have e:=gT b;rw[p4];show gI Nr b.kids (a+(1+cQ (ov b)))=_;have:∀(c:n_ Ex) (a:Nat),dn c<=n->gI Nr c a=.inl (a+dn c):=by
   intro c;induction c with
   |nil=>intro a _;rfl
   |cons i c d=>
    grind [dn,gI,aiY]
  grind
def ah4:Nat ⊕ Empty->Nat
 |.inl n=>n
 |.inr _=>0
def BP{k:Nat}{m n x:cC}{num:Int}{types:n_ Ty}{labels:n_ ij}{kids:n_ Ex}(h:fN Q)(he:Q=.mk k m n x num types labels kids)(i:dm Q<4294967296):j' types+j' labels<4294967296:=by
 subst he;have c:=gT (.mk k m n x num types labels kids);have f:=lH kids;have a:=ey (ov (.mk k m n x num types labels kids));rw[ov,aiB]at a;rw[ov]at c;rw[Ex.kids]at c;have d:=h.node;cases d
 case ZU _ b=>simp only[aiF];omega
 case func e b=>rw[X' rfl]at c a;rw[aiW]at a;simp only[aiF]at a⊢;omega
 case call _ b=>simp only[aiF];omega
 case mat _ b=>simp only[aiy,aiF];omega
 all_goals simp only[aiF,aiy]at a⊢;omega
def acR(a:iz Q T)(h:fN Q)(c:dm Q<4294967296)(b:∀T,NZ (ov Q) T->g (.ret (.d T)) y):b7 C cm uW [.agg (T.map V.d)] y g:=by
 have d:=gT Q;exact P5 Q T a (λ_ _ _ _ _ _ _ _ he=>by subst he;exact h.node.agQ) om (λ_ _ _ _ _ _ _ _ he=>BP h he c) b
def NZ.inv(h:NZ J F):(J=[]/\F=.cu)∨∃b d c a,F=.ps b d 5 c a/\dZ J a:=by
 exact Cn
def aax(a:la):la:={a with state:=.busy}
def agS(a:n_ V)(b:la)(x:Nat ⊕ Empty):Ob3:=⟨.box a,.box [cl (ah4 x)],.box a,b⟩
def agT{a:Ob3}(h:hP 0 H=A')(b:(gP 8 a.o0&&(gP 8 a.o1&&(gP 8 a.o2&&gP 8 (.loop a.L))))=A'):ml 8 (W3 a++.box H::y) 8=A':=by
 simp only[aiL]at b;have⟨e,d,c,f⟩:=b;simp only[W3,aiK,aiM,ml,e,d,c,f,ai0,aiT];rw[show gP 8 (.box H)=hP 8 H from rfl,ig 8 H h];try rfl
def agU{b:Ob3}{a:n_ V}(h:hP 0 H=A')(e:hP 0 a=A')(d:(gP 9 b.o0&&(gP 9 b.o1&&(gP 9 b.o2&&gP 9 (.loop b.L))))=A'):ml 9 (W3 b++.box H:: .box a::y) 9=A':=by
 simp only[aiL]at d;have⟨i,f,c,j⟩:=d;simp only[W3,aiK,aiM,ml,i,f,c,j,ai0,aiT];rw[show gP 9 (.box H)=hP 9 H from rfl,ig 9 H h,show gP 9 (.box a)=hP 9 a from rfl,ig 9 a e];try rfl
def Qj(t:Ex)(N:cP)(v:iz t N)(y:fN t)(ap:dm t<4294967295):b7 C cm sx [.agg (N.map V.d)] [] λac S=>S=[]/\ac=.ret (cl (dm t)):=by
 obtain⟨k,m,d,l,num,ty,o,f,rfl⟩:=v.eight;refine cD ?_;refine cA ?_;refine cA ?_;refine(afa (step:=Nr) (B:=λn=>n) (Good:=fN) (S:=agS (qm k m d l num ty o f) ?X) (λt h=>h.kids) ?_ ?_ ?_ ?_ _ t _ 0 (aiz _) v y om).mono (λac S h=>?_)
 ·intro x;exact rfl
 ·intro x s E h;exact agT h Z
 ·intro r t an h;cases h;exact aiz _
 ·intro r t N s ai v y O U D _;have T:=gT t;have U:r+dm t<4294967296:=U;obtain⟨B,w,i,j,a,q,p,e,rfl⟩:=v.eight;refine jF.intro ?_;refine acR v y om (λN P=>?_);have D:=D _ rfl;generalize ov t=own at P T D;have H:∀(A:Int) (E:VS),A=ait (r+(1+cQ own))->ai (.ret (cj A')) (W3 ⟨.box (qm k m d l num ty o f),.box [.d (.int .i64 A)],.box (qm k m d l num ty o f),?X⟩++.box s::E):=by
   rintro _ E rfl;exact D E
  have R:IntKind.i64.wrap (ait r+1)=ait (r+1):=cF om;rcases P.inv with⟨u,rfl⟩|⟨ag,ak,L,Q,rfl,M⟩
  ·refine ck.loop ?_;have z:=H (IntKind.i64.wrap (ait r+1)) [.box (qm B w i j a q p e)] (by rw[R,u,cQ]);exact z
  have J:=M.len;have ad:=ey own;have aa:ait (r+1)=ait (r+1+cQ (own.take 0)):=by rw[aiX,cQ]
  refine ck.iter (λc:Nat=>[(3,.bp 1 0),(13,.d (.ps ag ak 5 L Q)),(14,cl (j' own)),(15,cl c)]) (λc=>W3 (agS (qm k m d l num ty o f) (aax ?X) (.inl (r+1+cQ (own.take c))))++[.box s,.box (qm B w i j a q p e)]) (λc=>j' own-c) (λc=>c<=j' own) ?_ 0 (aiw _) (.same ⟨Z,Z,int_eq (by rw[J]),Z,tv⟩ (d_ (λA=>W3 ⟨.box (qm k m d l num ty o f),.box [V.d (.int .i64 A)],.box (qm k m d l num ty o f),aax ?X⟩++[.box s,.box (qm B w i j a q p e)]) (R.trans aa)));have Y:hP 0 s=A':=O;intro c ao;apply aZ<;>intro W
  ·have b:c<j' own:=eK W;have⟨N,I,g⟩:=M.get b;obtain⟨al,aj,af,am,f3,rfl⟩:=g.dL;have K:=I;rw[<-cx]at K;have ah:=eU (aiv b);have F:=sO b;have ae:=ou own (c+1);have ab:=dk (a:=r+1+cQ (own.take c)) (b:=cM own[c]) om;have G:ait (r+1+cQ (own.take c)+cM own[c])=ait (r+1+cQ (own.take (c+1))):=by rw[F,<-aiY]
   refine bZ Z ?_;refine cp _ K ?_;refine cy ?_;refine pz own[c] _ g om ?_;refine cy ?_;refine⟨c+1,b,ik,.drop 9 ⟨Z,Z,Z,int_eq (cF om),tv⟩ Z Z ?_ Z Z Z ?_,Z,Z⟩
   ·exact agU Y Z Z
   exact d_ (λA=>W3 ⟨.box (qm k m d l num ty o f),.box [V.d (.int .i64 A)],.box (qm k m d l num ty o f),aax ?X⟩++[.box s,.box (qm B w i j a q p e)]) (ab.trans G)
  have b:j' own<=c:=dK W;rw[aix b];have z:=H (ait (r+1+cQ own)) [.box (qm B w i j a q p e)] (by rw[aiY]);exact z
 obtain⟨x,I,rfl,rfl⟩:=h;rw[afi _ t 0 (aiz _)]at I;subst I;exact a8 0 ⟨Z,d_ (λn=>dt.ret (cl n)) (Nat.zero_add _)⟩
def G7(b:Ex)(f:cP)(a:iz b f)(d:fN b)(e:dm b<4294967295)(c:g (.ret (cl (dm b))) y):b7 C cm sx [.agg (f.map V.d)] y g:=by
 obtain⟨k,m,h,j,num,ty,l,i,rfl⟩:=a.eight;exact cI (Qj b _ a d e) Z Z c
def kC(_:Unit)(a:Ex):Unit ⊕ Nat:=if qC a=0 then .inl ()else .inr (qC a)
def ckN:Unit ⊕ Nat->Nat
 |.inl _=>0
 |.inr n=>n
def Dm(a:Ex):Nat:=if 4096<dm a∨32<ow a then 7 else ckN (ma kC a ())
def ckL(a:la):Unit ⊕ Nat->la
 |.inl _=>a
 |.inr _=>UD a
def ah5(a:n_ V)(b:la)(x:Unit ⊕ Nat):Ob5:=⟨.box a,.box [cl (ckN x)],Nj,.box [.map 2],.box a,ckL b x⟩
def afj{a:Ob5}(h:hP 0 H=A')(b:(gP 10 a.o0&&(gP 10 a.o1&&(gP 10 a.o2&&(gP 10 a.o3&&(gP 10 a.o4&&gP 10 (.loop a.L))))))=A'):ml 10 (W5 a++.box H::y) 10=A':=by
 simp only[aiL]at b;have⟨f,e,c,i,d,j⟩:=b;simp only[W5,aiK,aiM,ml,f,e,c,i,d,j,ai0,aiT];rw[show gP 10 (.box H)=hP 10 H from rfl,ig 10 H h];try rfl
theorem Ns(b:Ex)(z:cP)(c:iz b z)(j:fN b)(w:dm b<4294967295):b7 C cm rB [.agg (z.map V.d)] [] λI q=>q=[]/\I=.ret (cl (Dm b)):=by
 obtain⟨k,m,K,F,num,ty,G,S,rfl⟩:=c.eight;refine cD ?_;refine G7 b _ c j w ?_;apply aZ<;>intro y
 ·refine cN ?_;exact a8 0 ⟨Z,by rw[Dm,X' (.inl (eK (a:=4096) y))];try rfl⟩
 refine cN ?_;refine P4 _ b _ w (aiz _) c ?_;refine cN ?_;apply aZ<;>intro R
 ·refine cN ?_;exact a8 0 ⟨Z,by rw[Dm,X' (.inr (eK (a:=32) R))];try rfl⟩
 refine cN ?_;have B:Dm b=ckN (ma kC b ()):=by
  grind [Dm,dK]
 rw[B];refine cA ?_;refine cp u' Z (cp u' Z (cp u' Z (cp u' Z (cp u' Z (cp u' Z (cp u' Z (cp u' Z ?_)))))));refine cp u' Z (cp u' Z (cp u' Z (cp u' Z (cp u' Z (cp u' Z (cp u' Z (cp u' Z (cp u' Z ?_))))))));refine cA ?_;refine cA ?_;refine(afb (step:=kC) (B:=λ_=>0) (Good:=fN) (S:=ah5 (qm k m K F num ty G S) ?W) (λb h=>h.kids) ?_ ?_ ?_ ?_ _ b _ () (aiz _) c j om).mono (λI q h=>?_)
 ·intro x;cases x<;>exact rfl
 ·intro x u N h;exact afj h (by cases x<;>exact rfl)
 ·intro P b Q h;exact aiw _
 ·intro P b z u U c j L D E J;refine jF.intro ?_;cases c with
  |mk ht A g=>
   rename_i i d f e a types labels kids p n o;have M:=gT (.mk i d f e a types labels kids);have D:0+dm (.mk i d f e a types labels kids)<4294967296:=D;have v:=S7 j.node ht A g (BP j rfl om) om;refine SQ v 2 Z Z Z Z (λI h=>?_);subst h;apply aZ<;>intro r
   ·have l:qC (.mk i d f e a types labels kids)≠0:=λb=>by rw[b]at r;cases r
    have t:=J _ (by rw[kC,W' l]) [.box (qm i d f e a p n o)];exact t
   have l:qC (.mk i d f e a types labels kids)=0:=jq r;have t:=E () (by rw[kC,X' l]) [.box (qm i d f e a p n o)];exact t
 obtain⟨x,H,rfl,rfl⟩:=h;rw[H];cases x with
 |inl Y=>exact a8 0 ⟨rfl,rfl⟩
 |inr s=>exact a8 0 ⟨rfl,rfl⟩
def Qk(b:Ex)(f:cP)(a:iz b f)(d:fN b)(e:dm b<4294967295)(c:g (.ret (cl (Dm b))) y):b7 C cm rB [.agg (f.map V.d)] y g:=by
 obtain⟨k,m,h,j,num,ty,l,i,rfl⟩:=a.eight;exact cI (Ns b _ a d e) Z Z c
def EE(a:UInt8):Nat:=a.toNat-48
def mj(a:Nat)(d:cC):Nat:=d.foldl (λc b=>c*10+EE b) a
def D5(h:isDigit L=A'):48<=L.toNat/\L.toNat<=57:=by
 exact KV
def S8:∀(b:cC) (a k:Nat),b.all isDigit=A'->k+j' b<=19->a<10^k->Lib.parseUintM (2^64-1) a b=.ok (mj a b)/\mj a b<10^(k+j' b):=by
 intro b;induction b with
 |nil=>intro a k _ _ h;exact⟨rfl,h⟩
 |cons o n f=>
  intro a k c e r;rw[List.all_cons,aiL]at c;have⟨j,i⟩:=D5 c.1;rw[aiy]at e;have q:10^k<=10^18:=aiQ dc om;have m:a*10+(o.toNat-48)<10^(k+1):=by rw[Nat.pow_succ];omega
  have p:10^(k+1)<=10^19:=aiQ dc om;have⟨d,l⟩:=f (a*10+(o.toNat-48)) (k+1) c.2 om m;refine⟨?_,?_⟩
  ·rw[Lib.parseUintM,X' ⟨j,i⟩,W' om,W' om];exact d
  rw[aiy,show k+(j' n+1)=k+1+j' n from by omega];exact l
def G8(b:A.all isDigit=A')(c:j' A<=19)(a:A≠[]):Lib.parseUintB 64 A=.ok (mj 0 A)/\mj 0 A<10^19:=by
 have⟨e,d⟩:=S8 A 0 0 b om dc;rw[Lib.parseUintB,W' a];refine⟨e,Nat.lt_of_lt_of_le d (aiQ dc om)⟩
def Ql(a:Tok):Prop:=a.kind=3->a.text.all isDigit=A'/\j' a.text<=19/\a.text≠[]
theorem aay{a:cC}{k n:Nat}(h:j7 A=.ok k a n):k=3->a.all isDigit=A'/\j' a<=19/\a≠[]:=by
 cases A with
 |nil=>cases h
 |cons b c=>
  all_goals grind [j7,lN,mb,rL,Dj]
def Xm(s:cC):∀(d a:Nat) (e:n_ Tok),jA s d a=.ok e->∀i∈e,Ql i:=by
 intro d;induction d with
 |zero=>intro a e h;cases h;simp
 |succ d f=>
  intro a e h;rw[jA]at h;split at h
  ·cases h;intro i ht;simp at ht;subst ht;exact λh=>by simp at h
  cases ht:j7 (s.drop a)with
  |err p=>rw[ht]at h;cases h
  |ok k i n=>
   rw[ht]at h;dsimp only at h;cases c:jA s d (a+n+dO B' (s.drop (a+n)))with
   |err o m=>rw[c]at h;cases h
   |ok l=>
    rw[c]at h;cases h;intro j b;rcases aiH.1 b with rfl|b
    ·exact aay ht
    exact f _ _ c j b
def Lv{s:cC}{R:Rd}(h:k5 s=.ok R.ts):∀p,Ql (R.tok p):=by
 intro p;by_cases a:p<j' R.ts
 ·unfold k5 at h;split at h
  ·cases h
  exact Xm s _ _ _ h _ (ai3 (cn a))
 rw[Rd.tok,List.getElem?_eq_none om];exact λh=>by simp at h
def Qm{R:Rd}(h:k5 A=.ok R.ts):R.Ng:=by
 intro p a;have⟨d,b,c⟩:=Lv h p a;exact⟨⟨_,(G8 d b c).1⟩,om⟩
section
variable{R R':Rd} (h:R.ts=R'.ts)
include h
def lJ(p:Nat):dp R p=dp R' p:=by rw[dp,dp,fq h]
def Dn(a:n_ dg)(p:Nat):eg R a p=eg R' a p:=by rw[eg,eg,fq h]
def E8(ex:Nat->PR Ex)(a:cC)(p:Nat):eV ex R a p=eV ex R' a p:=by rw[eV,eV,kb h]
theorem aaz{c:Type}{step a:c->Nat->PR c}(i:∀d p,step d p=a d p)(b:cC):∀(e:Nat) (d:c) (p:Nat),fh step R b e d p=fh a R' b e d p:=by
 intro e;induction e with
 |zero=>intro d p;rfl
 |succ e f=>intro d p;simp only[fh,i,fq h,kb h,f]
theorem BQ{c:Type}{step a:c->Nat->PR c}(e:∀d p,step d p=a d p)(b:cC)(d:c)(p:Nat):ec step R b d p=ec a R' b d p:=by
 grind [ec,fq,aaz]
def aaA(ex:Nat->PR Ex)(a:n_ dg)(p:Nat):gx ex R a p=gx ex R' a p:=by simp only[gx,Dn h,E8 h]
def aaB(ex:Nat->PR Ex)(a:n_ dg)(p:Nat):fX ex R a p=fX ex R' a p:=by simp only[fX,Dn h,E8 h,lJ h]
def aaC(ty:Nat->PR Ty)(ex:Nat->PR Ex)(a:n_ dg)(p:Nat):eA ty ex R a p=eA ty ex R' a p:=by simp only[eA,Dn h,kb h,fq h]
def Lw(ex:Nat->PR Ex)(a:cC)(k:Nat)(kids:n_ Ex)(p:Nat):iY ex R a k kids p=iY ex R' a k kids p:=by rw[iY,iY,BQ h (aaA h ex)]
def UK(a p:Nat):qS a R p=qS a R' p:=by simp only[qS,fq h]
def acS{fn b:Nat->PR Ex}(d:∀p,fn p=b p)(a:n_ cC):∀(c:Nat) (x:Ex) (p:Nat),vg fn a R c x p=vg b a R' c x p:=by
 intro c;induction c with
 |zero=>intro x p;rfl
 |succ c e=>intro x p;simp only[vg,fq h,d,e]
def E9{fn a:Nat->PR Ex}(c:∀p,fn p=a p)(b:n_ cC)(p:Nat):og fn b R p=og a b R' p:=by
 simp only[og,c,acS h c,h]
def Xn(ty:Nat->PR Ty)(a:cC)(p:Nat):iA ty R a p=iA ty R' a p:=by simp only[iA,fq h,lJ h,Qf h]
def aaD(ty:Nat->PR Ty)(ex:Nat->PR Ex)(p:Nat):fG ty ex R p=fG ty ex R' p:=by
 have b:∀a c p,ec (kh ex) R a c p=ec (kh ex) R' a c p:=BQ h λ_ _=>rfl;simp only[fG,fq h,UK h,Xn h,Lw h,lJ h,E8 h,kb h,b]
def aaE(ex:Nat->PR Ex):∀(a:Nat) (x:Ex) (p:Nat),lg ex R a x p=lg ex R' a x p:=by
 intro a;induction a with
 |zero=>intro x p;rfl
 |succ a b=>intro x p;simp only[lg,fq h,lJ h,Lw h,b]
def aaF(ty:Nat->PR Ty)(ex:Nat->PR Ex)(p:Nat):gK ty ex R p=gK ty ex R' p:=by simp only[gK,aaD h,aaE h,h]
def acT(ty:Nat->PR Ty)(ex:Nat->PR Ex):∀(a p:Nat),ql ty ex R a p=ql ty ex R' a p:=by
 intro a;induction a with
 |zero=>intro p;rfl
 |succ a b=>intro p;simp only[ql,fq h,UK h,aaF h,b]
def acU(ty:Nat->PR Ty)(ex:Nat->PR Ex)(p:Nat):mv ty ex R p=mv ty ex R' p:=by
 have a:j' R.ts=j' R'.ts:=by rw[h]
 refine E9 h (λp=>?_) _ p;refine E9 h (λp=>?_) _ p;rw[a];exact acT h ty ex _ p
def acV(ty:Nat->PR Ty)(ex:Nat->PR Ex):∀(a p:Nat),oh ty ex R a p=oh ty ex R' a p:=by
 intro a;induction a with
 |zero=>intro p;rfl
 |succ a b=>intro p;simp only[oh,fq h,acU h,b]
def afk(ty:Nat->PR Ty)(ex:Nat->PR Ex)(p:Nat):Wx ty ex R p=Wx ty ex R' p:=by
 have a:j' R.ts=j' R'.ts:=by rw[h]
 refine E9 h (λp=>?_) _ p;refine E9 h (λp=>?_) _ p;rw[a];exact acV h ty ex _ p
def afl:∀(a:Nat),By R a=By R' a:=by
 intro a;induction a with
 |zero=>rfl
 |succ a b=>
  funext p;have ht:iM R (j' R.ts)=iM R' (j' R'.ts):=by rw[h];exact UI h _
  rw[By,By,b,ht];simp only[DY,fq h,vW,ol,lD,lE,funcF,lJ h,E8 h,D4 h,kb h,BQ h (aaB h _),BQ h (aaC h _ _),afk h]
end
def PR.E.of{c a:Type}{x:PR c}(h:x=.bad u N)(d:x.E):(PR.bad u N:PR a).E:=λ_ _ b=>by
 cases b;exact d _ _ h
def yy(R:Rd)(p:Nat):(dp R p).E:=by
 unfold dp;split
 ·exact .bad dc
 exact .ok
def G9(R:Rd)(a:n_ dg)(p:Nat):(eg R a p).E:=by
 unfold eg;split
 ·exact .bad dc
 split
 ·exact .bad dc
 exact .ok
def td{ex:Nat->PR Ex}(he:∀p,(ex p).E)(R:Rd)(a:cC)(p:Nat):(eV ex R a p).E:=by
 unfold eV;split
 ·exact .of ‹_› (jB R _ _)
 exact he _
def acW{a:Type}{step:a->Nat->PR a}(f:∀c p,(step c p).E)(R:Rd)(b:cC):∀(d:Nat) (c:a) (p:Nat),(fh step R b d c p).E:=by
 intro d;induction d with
 |zero=>intro c p;exact .bad dc
 |succ d e=>
  intro c p;rw[fh];split
  ·exact .of ‹_› (f _ _)
  split
  ·exact .ok
  split
  ·exact .of ‹_› (jB R _ _)
  exact e _ _
def Fa{b:Type}{step:b->Nat->PR b}(d:∀c p,(step c p).E)(R:Rd)(a:cC)(c:b)(p:Nat):(ec step R a c p).E:=by
 unfold ec;split
 ·exact .ok
 exact acW d R a _ _ _
section
variable{ty:Nat->PR Ty} {ex:Nat->PR Ex} (ht:∀p,(ty p).E) (he:∀p,(ex p).E) (R:Rd)
include he
def acX(a:n_ dg)(p:Nat):(gx ex R a p).E:=by
 unfold gx;split
 ·exact .of ‹_› (G9 R _ _)
 exact .map (td he R _ _)
def acY(a:n_ dg)(p:Nat):(fX ex R a p).E:=by
 unfold fX;split
 ·exact .of ‹_› (G9 R _ _)
 split
 ·exact .of ‹_› (yy R _)
 exact .map (td he R _ _)
def Qn(a:cC)(k:Nat)(kids:n_ Ex)(p:Nat):(iY ex R a k kids p).E:=.map (Fa (acX he R) R _ _ _)
def afm(p:Nat):(vW ex R p).E:=by
 unfold vW;split
 ·exact .of ‹_› (yy R _)
 split
 ·exact .of ‹_› (td he R _ _)
 exact .map (td he R _ _)
theorem afn(a:n_ cC):∀(b:Nat) (x:Ex) (p:Nat),(vg ex a R b x p).E:=by
 intro b;induction b with
 |zero=>intro x p;exact .bad dc
 |succ b c=>
  intro x p;rw[vg];split
  ·exact .ok
  all_goals grind
def Nt(a:n_ cC)(p:Nat):(og ex a R p).E:=by
 unfold og;split
 ·exact .of ‹_› (he _)
 exact afn he R _ _ _ _
def acZ:∀(b:Nat) (x:Ex) (p:Nat),(lg ex R b x p).E:=by
 intro b;induction b with
 |zero=>intro x p;exact .bad dc
 |succ b a=>
  intro x p;rw[lg];split
  ·split
   ·exact .of ‹_› (yy R _)
   exact a _ _
  split
  ·split
   ·exact .of ‹_› (Qn he R _ _ _ _)
   exact a _ _
  exact .ok
omit he in
def aaG(a p:Nat):(qS a R p).E:=by
 unfold qS;split
 ·exact .bad dc
 split
 ·split
  ·exact .bad dc
  exact .ok
 exact .bad dc
include ht
def ac0(a:n_ dg)(p:Nat):(eA ty ex R a p).E:=by
 unfold eA;split
 ·exact .of ‹_› (G9 R _ _)
 split
 ·exact .of ‹_› (jB R _ _)
 split
 ·exact .of ‹_› (ht _)
 split
 ·exact .map (he _)
 exact .ok
omit he in
def aaH(b:cC)(p:Nat):(iA ty R b p).E:=by
 have a:∀p,(if cG (R.tok p) [58,58]=A' then(dp R (p+1)).map λc=>(4,b,c)else .ok (3,[],b) p:PR (Nat×cC×cC)).E:=λp=>by
  split
  ·exact .map (yy R _)
  exact .ok
 unfold iA;split
 ·exact .of ‹_› (a _)
 split
 ·exact .map (No ht R _)
 exact .ok
def ac1(p:Nat):(fG ty ex R p).E:=by
 have c:∀x a,(if cG (R.tok a) [58]=A' then(ty (a+1)).map λe=>Ex.mk 11 [] [] [] 0 [e] [] [x]else .ok x a).E:=λx a=>by
  split
  ·exact .map (ht _)
  exact .ok
 have b:∀d p,(kh ex d p).E:=λd p=>.map (he p);unfold fG;repeat' split
 all_goals first
  |exact aaG R _ _
  |exact .ok
  |exact .bad dc
  |exact aaH ht R _ _
  |exact Qn he R _ _ _ _
  |exact .of ‹_› (yy R _)
  |exact .of ‹_› (td he R _ _)
  |exact .of ‹_› (ht _)
  |exact .of ‹_› (he _)
  |exact .of ‹_› (jB R _ _)
  |exact .of ‹_› (c _ _)
  |exact .map (jB R _ _)
  |exact .map (Fa b R _ _ _)
def ac2(p:Nat):(gK ty ex R p).E:=by
 unfold gK;split
 ·exact .of ‹_› (ac1 ht he R _)
 exact acZ he R _ _ _
def afo:∀(a p:Nat),(ql ty ex R a p).E:=by
 intro a;induction a with
 |zero=>intro p;exact .bad dc
 |succ a b=>
  intro p;rw[ql];split
  ·exact .map (b _)
  split
  ·exact aaG R _ _
  exact ac2 ht he R _
def aaI(p:Nat):(mv ty ex R p).E:=Nt (Nt (afo ht he R _) R _) R _ p
def afp:∀(a p:Nat),(oh ty ex R a p).E:=by
 intro a;induction a with
 |zero=>intro p;exact .bad dc
 |succ a b=>
  intro p;rw[oh];split
  ·exact .map (b _)
  split
  ·exact .of ‹_› (aaI ht he R _)
  split
  ·exact .ok
  exact .map (aaI ht he R _)
def agV(p:Nat):(Wx ty ex R p).E:=Nt (Nt (afp ht he R _) R _) R _ p
def ac3(p:Nat):(ol ty ex R p).E:=by
 unfold ol;split
 ·exact .of ‹_› (vn ht R _)
 split
 ·exact .of ‹_› (he _)
 split
 ·exact .of ‹_› (td he R _ _)
 exact .map (td he R _ _)
def aaJ(p:Nat):(lD ty ex R p).E:=by
 unfold lD;split
 ·exact .of ‹_› (vn ht R _)
 split
 ·exact .of ‹_› (he _)
 split
 ·exact .of ‹_› (jB R _ _)
 exact .map (Fa (acY he R) R _ _ _)
def ac4(p:Nat):(lE ty ex R p).E:=by
 unfold lE;repeat' split
 all_goals first
  |exact .of ‹_› (vn ht R _)
  |exact .of ‹_› (yy R _)
  |exact .of ‹_› (jB R _ _)
  |exact .of ‹_› (td he R _ _)
  |exact .map (td he R _ _)
def ac5(p:Nat):(funcF ty ex R p).E:=by
 unfold funcF;split
 ·exact .of ‹_› (jB R _ _)
 split
 ·exact .of ‹_› (Fa (ac0 ht he R) R _ _ _)
 exact .map (td he R _ _)
end
def agW(R:Rd):∀(b p:Nat),(By R b p).E:=by
 intro b;induction b with
 |zero=>intro p;exact .bad dc
 |succ b a=>
  intro p;have ht:=aap R (j' R.ts);rw[By,DY];repeat' split
  ·exact afm a R _
  ·exact ac3 ht a R _
  ·exact aaJ ht a R _
  ·exact ac4 ht a R _
  ·exact ac5 ht a R _
  exact agV ht a R _
def Lx(h:u≠0):decide (ait u=0)=B':=Z' λa=>h (by simp only[ais]at a;omega)
def yz:V:=.agg [cv [],.d .cu,.d .cu]
abbrev EF(R:Rd)(p:Nat):PR (Da×List Nat):=rR (iM R (j' R.ts)) (By R (j' R.ts)) R p
def D6(j:cC)(c:dt)(d:D):Prop:=match k5 j with
 |.err a f=>c=.ret (.dP [yz,cl a,cl f])
 |.ok ts=>∃e b,match EF ⟨e,b,ts⟩ 0 with
  |.bad a f=>c=.ret (.dP [yz,cl a,cl f])
  |.ok m i=>if(Rd.tok ⟨e,b,ts⟩ i).kind≠0 then c=.ret (.dP [yz,cl (Rd.tok ⟨e,b,ts⟩ i).off,cl 3])else ∃h,xj m.1 h/\Lo m.2 d/\c=.ret (.dP [.agg (h.map V.d),cl 0,cl 0])
theorem Qo{R:Rd}(k:R.Wf)(i:R.Nm)(d:j' R.ts<=65537):∀(j:Nat) (q:n_ ux) (p:Nat) (c:n_ ux) (f:Nat),p<j' R.ts->eI R j q p=.ok c f->p<=f/\f<j' R.ts:=by
 intro j;induction j with
 |zero=>intro q p c f _ h;cases h
 |succ j t=>
  intro q p c f hp h;rw[eI]at h;split at h
  ·rename_i l;split at h
   ·cases h
   rename_i C q1 a;rw[gG]at a;split at a
   ·cases a
   rename_i s q2 n;have⟨v,r⟩:=(zX k i d).lt _ _ _ (k.step hp l) n;have⟨x,b,_⟩:=dY a;rw[dC]at b;split at b
   ·cases b
   rename_i B q3 e;have o:=dI _ _ _ e;have m:=eo k _ _ _ r e;simp only[aiy,aiF]at o;have⟨D,w⟩:=gy k m b
   grind
  exact q0
def Xo{R:Rd}(n:R.Wf){ty:Nat->PR Ty}{ex:Nat->PR Ex}(ht:∀p x a,u<=p->p<j' R.ts->ty p=.ok x a->p<a/\a<j' R.ts)(k:∀p x a,u<=p->p<j' R.ts->ex p=.ok x a->p<a/\a<j' R.ts):∀(d:Nat) (j:n_ jj) (b:n_ Nat) (p:Nat) (c:n_ jj×n_ Nat) (a:Nat),u<=p->p<j' R.ts->ja ty ex R d j b p=.ok c a->p<=a/\a<j' R.ts:=by
 intro d;induction d with
 |zero=>intro j b p c a _ _ h;cases h
 |succ d f=>
  intro j b p c a i hp h;rw[ja]at h;split at h
  ·split at h
   ·cases h
   rename_i o q1 e;have⟨q,m⟩:=GU n ht k i hp e;have⟨r,l⟩:=f _ _ _ _ _ om m h;exact⟨om,l⟩
  exact q0
def ac6{R:Rd}(e:R.Wf)(c:R.Nm)(b:j' R.ts<=65537){ty:Nat->PR Ty}{ex:Nat->PR Ex}(ht:∀p x N,u<=p->p<j' R.ts->ty p=.ok x N->p<N/\N<j' R.ts)(l:∀p x N,u<=p->p<j' R.ts->ex p=.ok x N->p<N/\N<j' R.ts){m:Da×n_ Nat}(j:u<j' R.ts)(h:rR ty ex R u=.ok m N):u<=N/\N<j' R.ts:=by
 rw[rR]at h;split at h
 ·cases h
 rename_i s q1 a;rw[dC]at a;split at a
 ·cases a
 rename_i B o d;have n:=dI _ _ _ d;have i:=eo e _ _ _ j d;simp only[aiy,aiF]at n;have⟨w,t⟩:=(zX e c b).lt _ _ _ i a;split at h
 ·cases h
 rename_i v q2 f;have⟨C,r⟩:=Qo e c b _ _ _ _ _ t f;have⟨x,k,_⟩:=dY h;have⟨D,q⟩:=Xo e ht l _ _ _ _ _ _ om r k;exact⟨om,q⟩
def aaK{R:Rd}(v:R.Wf)(f:R.Nm)(b:j' R.ts<=65537){ty:Nat->PR Ty}{ex:Nat->PR Ex}{p:Nat}(ht:iW ty R p)(n:Good ty R p)(c:oo dz ex R p)(o:p<j' R.ts)(i:Nat)(d:nth y i=q' (ee R p)) 
  (l:∀m k a q,rR ty ex R p=.ok m q->xj m.1 k->Lo m.2 a->g (.ret (.dP [.agg (k.map V.d),.d a])) (y.set i (ee R q))) (k2:∀off e q,rR ty ex R p=.bad off e->g (.fJ (dX off e)) (y.set i (ee R q))):b7 C cm vy [.bp i 0] y g:=by
 refine b7.one (fk:=[.bp 0 0]) (P:=mdK R (rR ty ex R p)) (WU v f b ht n c o) i d Z Z Z (λw t h=>?_);unfold mdK at h;split at h
 ·rename_i m q e;obtain⟨rfl,k,a,s,r,rfl⟩:=h;exact l m k a q e s r
 exact Ca
def Qp(s:cC):b7 C cm mo [cv s,.fn n5 [] [.bp 0 0]] [.box [.d .cu]] λI B=>∃f,B=[.box f]/\da I=A'/\hP 0 f=A'/\∃d,f=[.d d]/\D6 s I d:=by
 refine cD ?_;refine WK s (λI l=>?_);cases b:k5 s with
 |err x u=>
  rw[b]at l;obtain rfl:I=_:=l;have he:=GL b;refine aZ (λh=>?_) (λh=>Y' (jq h) he);refine cy ?_;refine a8 1 ⟨_,Z,Z,Z,_,Z,?_⟩;unfold D6;rw[b];try rfl
 |ok ts=>
  rw[b]at l;obtain⟨c,a,rfl⟩:=l;have⟨E,e⟩:=BG (R:=⟨c,a,ts⟩) b;have r:=Qm (R:=⟨c,a,ts⟩) b;have j:=BJ (R:=⟨c,a,ts⟩) b;have n:j' ts<=65537:=(Na b).2.2.2.1;have p:=ZP E r (j' ts) 0 (by show (j' ts)-0<=j' ts;omega);have o:=GG E (j' ts) 0 (by show (j' ts)-0<=j' ts;omega);have q:=um E j (j' ts);refine cA ?_;refine aaK E j n o q p e 5 ?_ (λm z d D i y g=>?_) (λx u D i=>?_)
  ·exact Z
  ·obtain⟨t,w,V,K,rfl⟩:=y;have⟨_,S⟩:=ac6 E j n o.lt p.lt e i;refine iL ⟨c,a,ts⟩ D _ (cn S) 5 ?_ ?_
   ·exact Z
   apply aZ<;>intro h
   ·have v:(Rd.tok ⟨c,a,ts⟩ D).kind≠0:=λu=>by rw[u]at h;cases h
    refine jl _ (Rd.tok ⟨c,a,ts⟩ D).off 3 ?_;refine CW.body Sh ?_;refine cy ?_;refine a8 1 ⟨_,Z,Z,Z,d,Z,?_⟩;unfold D6;rw[b];refine⟨c,a,?_⟩;rw[show EF ⟨c,a,ts⟩ 0=_ from i];dsimp only;rw[X' v];try rfl
   have v:(Rd.tok ⟨c,a,ts⟩ D).kind=0:=jq h;refine CW.body Sh ?_;refine a8 1 ⟨_,Z,Z,Z,d,Z,?_⟩;unfold D6;rw[b];refine⟨c,a,?_⟩;rw[show EF ⟨c,a,ts⟩ 0=_ from i];dsimp only;rw[W' om];exact⟨_,⟨t,w,V,K,Z⟩,g,Z⟩
  refine CW.body Sh ?_;refine cy ?_;refine a8 1 ⟨_,Z,Z,Z,.cu,Z,?_⟩;unfold D6;rw[b];refine⟨c,a,?_⟩;rw[show EF ⟨c,a,ts⟩ 0=_ from i];try rfl
def S9(c:cC)(f:Nat)(d:nth y f=q' (.box [.d .cu]))(i:∀b a,D6 c b a->g b (y.set f (.box [.d a]))):b7 C cm mo [cv c,.fn n5 [] [.bp f 0]] y g:=
 b7.one (fk:=[cv c,.fn n5 [] [.bp 0 0]]) (P:=λb j=>∃a,j=[.d a]/\D6 c b a) (Qp c) f d rfl rfl rfl (λb k ⟨a,l,h⟩=>by rw[l];exact i b a h)
def N1(b:Prop)(c:dt):Prop:=∃a:Bool,(b->a=A')/\c=.ret (cj a)
def iQ(h:¬M):N1 M (.ret (cj B')):=⟨B',λp=>Y' p h,rfl⟩
def TP:N1 M (.ret (cj A')):=⟨A',λ_=>rfl,rfl⟩
abbrev EqI(n:Nat):Prop:=∀(c e:Ty) (d a:cP),cM c<=n->fF c d->fF e a->∀{b:VS} {f:dt->VS->Prop},(∀h:Bool,(c=e->h=A')->f (.ret (cj h)) b)->b7 C cm jV [.agg (d.map V.d),.agg (a.map V.d)] b f
theorem Xp(n:Nat)(g:EqI n)(Q:n<4294967295){d:n_ Ty}(M:cQ J<=n)(u:ft J F)(ha':ft d G):b7 C cm qP [.d F,.d G,.fn jV [] []] [] λH x=>x=[]/\N1 (J=d) H:=by
 have z:=ey J;refine cD ?_;cases u with
 |nil=>
  exact Jd
 |ps h EJ=>
  rename_i N L t els;have e1:=h.len;cases ha' with
  |nil=>
   rcases els with _|⟨x0,xr⟩
   ·exact Y' Z EJ
   exact Cr
  |ps q y=>
   rename_i I S k zk;have e2:=q.len;apply aZ<;>intro hc
   ·exact Ch
   have R:j' els=j' zk:=by
    grind
   refine ck.iter (λa:Nat=>[(1,.d (.ps I S 5 k zk)),(2,.fn jV [] []),(15,.d (.ps N L 5 t els)),(16,cl (j' els)),(17,cl a)]) (λ_=>[]) (λa=>j' J-a) (λa=>a<=j' J) ?_ 0 (aiw _);intro a P;apply aZ<;>intro K
   ·have b:a<j' J:=e1▸eK K;have s:a<j' d:=om;have⟨T,V,j⟩:=h.get b;have⟨O,m,c⟩:=q.get s;have A:=eU (aiv b);obtain⟨B,o,i,E,f2,rfl⟩:=j.dL;obtain⟨r,p,f,v,f3,rfl⟩:=c.dL;have w:nth els a=q' [.int .i64 (ait B),.str o,.str i,E,f2]:=by rw[cx];exact V
    have l:nth zk a=q' [.int .i64 (ait r),.str p,.str f,v,f3]:=by rw[cx];exact m
    refine bZ Z ?_;refine cp _ w ?_;refine bZ Z ?_;refine cp _ l ?_;refine g J[a] d[a] [.int .i64 (ait B),.str o,.str i,E,f2] [.int .i64 (ait r),.str p,.str f,v,f3] om j c (λbb hb=>?_);apply aZ<;>intro h2
    ·exact J8
    exact⟨a+1,b,ik,.eP 0 [],Z,Z⟩
   exact qY
def Ta(n:Nat)(e:EqI n){x a:FE}{d:Ty}(f:cM O<=n)(o:fF O x.ty)(i:fF d a.ty):b7 C cm k8 [fw x,fw a] [] λp b=>b=[]/\N1 (x.n=a.n/\x.o=a.o/\O=d) p:=by
 refine cD ?_;apply aZ<;>intro l
 ·refine cN ?_;apply aZ<;>intro j
  ·refine cN ?_;refine e O d x.ty a.ty f o i (λq m=>?_);refine cN ?_;exact a8 0 ⟨Z,q,λh=>m h.2.2,Z⟩
  refine cN ?_;exact a8 0 ⟨Z,iQ λc=>e_ j c.2.1⟩
 refine cN ?_;exact a8 0 ⟨Z,iQ λc=>e_ l c.1⟩
theorem Tb(n:Nat)(N:EqI n)(aa:n<4294967295){b d:n_ oK}(W:cQ (fa b)<=n)(O:uz b F)(i:uz d G):b7 C cm qi [.d F,.d G,.fn k8 [] []] [] λl f=>f=[]/\N1 (b=d) l:=by
 have P:=ey (fa b);have Q:j' (fa b)=j' b:=by simp[fa]
 refine cD ?_;cases O with
 |nil=>
  cases i with
  |nil=>
   refine ck.loop ?_;exact qY
  |ps h=>
   rename_i els;have e1:=h.len;rcases els with _|⟨R,M⟩
   ·refine ck.loop ?_;exact qY
   exact a8 0 ⟨Z,iQ λe=>by rw[<-e]at e1;simp at e1⟩
 |ps h=>
  rename_i X U q els;have e1:=h.len;cases i with
  |nil=>
   rcases els with _|⟨R,M⟩
   ·refine ck.loop ?_;exact qY
   exact Cr
  |ps o=>
   rename_i g J j zk;have e2:=o.len;apply aZ<;>intro hc
   ·exact Ch
   have z:j' els=j' zk:=by
    grind
   refine ck.iter (λa:Nat=>[(1,.d (.ps g J 7 j zk)),(2,.fn k8 [] []),(15,.d (.ps X U 7 q els)),(16,cl (j' els)),(17,cl a)]) (λ_=>[]) (λa=>j' b-a) (λa=>a<=j' b) ?_ 0 (aiw _);intro a Y;apply aZ<;>intro y
   ·have c:a<j' b:=e1▸eK y;have p:a<j' d:=om;have⟨x,L,v,B,E⟩:=h.get c;have⟨K,A,s,I,w⟩:=o.get p;have T:cM b[a].2.1<=cQ (fa b):=eU (List.mem_map_of_mem (aiv c));have r:nth els a=q' (fe x):=by rw[cx];exact L
    have k:nth zk a=q' (fe K):=by rw[cx];exact A
    refine bZ Z ?_;refine cp _ r ?_;refine bZ Z ?_;refine cp _ k ?_;refine b7.closed (P:=λl=>N1 (x.n=K.n/\x.o=K.o/\b[a].2.1=d[a].2.1) l) (args:=[fw x,fw K]) ((Ta n N om E w).mono λl f h=>⟨h.1,by have⟨m,_,e⟩:=h.2;rw[e];try rfl,h.2⟩) Z (λl H=>?_);obtain⟨m,u,rfl⟩:=H;apply aZ<;>intro V
    ·have t:m=B':=uA V;refine a8 0 ⟨Z,iQ λe=>?_⟩;have:=u (by subst e;exact⟨v.symm.trans s,B.symm.trans I,rfl⟩);rw[t]at this;cases this
    exact⟨a+1,c,ik,.eP 0 [],Z,Z⟩
   exact qY
def Xq(n:Nat)(w:EqI n)(v:n<4294967295)(y H:Ty)(F s:cP)(ht:cM y<=n+1)(E:fF y F)(x:fF H s):b7 C cm jV [.agg (F.map V.d),.agg (s.map V.d)] [] λi f=>f=[]/\N1 (y=H) i:=by
 cases E with
 |mk u R=>
  rename_i k m L e a T U;cases x with
  |mk D q=>
   rename_i N P J j b M O;have A:cQ e+rT a<=n:=by simp only[cM]at ht;omega
   have z:=py a;refine cD ?_;apply aZ<;>intro r
   ·have G:=Dw r;refine cN ?_;apply aZ<;>intro I
    ·refine cN ?_;apply aZ<;>intro g
     ·refine cN ?_;refine b7.closed (P:=λi=>N1 (e=j) i) ((Xp n w v om u D).mono λi f h=>⟨h.1,by have⟨K,_,c⟩:=h.2;rw[c];try rfl,h.2⟩) Z (λi l=>?_);obtain⟨o,B,rfl⟩:=l;refine cN ?_;apply aZ<;>intro p
      ·have d:o=A':=p;subst d;refine cN ?_;refine b7.closed (P:=λi=>N1 (a=b) i) ((Tb n w v om R q).mono λi f h=>⟨h.1,by have⟨K,_,c⟩:=h.2;rw[c];try rfl,h.2⟩) Z (λi l=>?_);obtain⟨S,t,rfl⟩:=l;refine cN ?_;exact a8 0 ⟨Z,S,λc=>t (by cases c;rfl),Z⟩
      have d:o=B':=p;subst d;refine cN ?_;exact a8 0 ⟨Z,iQ λc=>Y' (B (by cases c;rfl)) dc⟩
     refine cN ?_;exact a8 0 ⟨Z,iQ λc=>e_ g (by cases c;rfl)⟩
    refine cN ?_;exact a8 0 ⟨Z,iQ λc=>e_ I (by cases c;rfl)⟩
   refine cN ?_;exact a8 0 ⟨Z,iQ λc=>e_ r (by cases c;rfl)⟩
def UL:∀n,n<4294967296->EqI n:=by
 intro n;induction n with
 |zero=>intro _ d l q c h;have:=jm d;omega
 |succ n o=>
  intro I d l q c ht b a E K j;have f:=Xq n (o om) om d l q c ht b a;obtain⟨k,m,t,R,S,rfl⟩:=b.dL;obtain⟨x,D,s,w,C,rfl⟩:=a.dL;exact b7.closed (P:=λe=>N1 (d=l) e) (f.mono λe r h=>⟨h.1,by have⟨v,_,p⟩:=h.2;rw[p];try rfl,h.2⟩) Z λe ⟨B,i,p⟩=>by rw[p];exact j B i
end Go.Proofs.YtdocmpeionacbaaGreatDoor
