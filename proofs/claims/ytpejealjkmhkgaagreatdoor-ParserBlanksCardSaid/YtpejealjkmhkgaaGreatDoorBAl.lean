/- Part of the proof. -/
import Derived.Test.YtpejealjkmhkgaaGreatDoorBAk
set_option linter.all false
set_option maxHeartbeats 16000000
set_option maxRecDepth 100000
open Bool renaming false_eq_true->agj
open Nat renaming le_refl->agk,le_of_ble_eq_true->agl,beq->ago,zero_le->agt,ble_eq->agB,le_add_right->agI,blt->agL
open Int renaming ofNat->agm,ofNat_eq_natCast->agx
open List renaming length_cons->agn,length_append->agp,length_map->agq,take_of_length_le->agr,getElem_mem->ags,mem_append->agu,length_nil->agv,map->agw,getElem?_eq_getElem->agy,map_cons->agz,map_nil->agA,find?->agC,map_append->agD,take->agE,mem_singleton->agF,drop->agG,mem_map->agH,not_mem_nil->agJ,cons_append->agK,nodup_nil->agM,mem_cons->agN
open And renaming intro->agO
open Option renaming toList_some->agP
namespace Go.Proofs.YtpejealjkmhkgaaGreatDoor
open Go.AM Go.VM
variable{W:Prop}
def fitAll (a:W:=by
 refine cm ?_;repeat' first|(change jR _ _ _;first|refine cg (by with_reducible assumption) ?_|refine a7 (by with_reducible assumption) ?_|refine aZ (fun _=>?_) (fun _=>?_))|refine dx (args:=[.str _,.str _]) (x:=.bool true) rfl rfl ?_|refine dx (args:=[.str _,.str _]) (x:=.bool false) rfl rfl ?_|refine QC (by assumption) ?_|refine QD (by assumption) ?_|refine cd.loop ?_|refine cj ?_
 all_goals exact a8 0 ⟨rfl,rfl⟩):W:=a
structure k8 (k:Nat) (labels:List lK):Prop where
 name:∀l∈labels,cK l.n=true
 srt:mw lK.n labels
 var:∀l∈labels,if k=13 then cK l.v=true else l.v=[]
 ty:∀l∈labels,if k=8 then ft l.ty else l.ty=cV/\l.tV=false
def zv(l:List lK):Nat:=(l.filter lK.tV).length
def BK:List cq:=[[43],[45],[42],[60],[61,61],[61,61,61],[43,43],[97,110,100],[111,114]]
def K9:List cq:=[[110,111,116],[108,101,110,103,116,104]]
inductive fB:Ex->Prop
 |int {num:Int}:fB (.mk 0 [] [] [] num [] [] [])
 |text {x:cq}:fB (.mk 1 [] [] x 0 [] [] [])
 |bool {b:Bool}:fB (.mk 2 [] [] [] (if b then 1 else 0) [] [] [])
 |loc {n:cq} (hn:cK n=true):fB (.mk 3 [] n [] 0 [] [] [])
 |val {m n:cq} {types:List Ty} (hm:m=[]∨cK m=true) (hn:cK n=true) (ht:∀t∈types,ft t) (hv:m≠[]∨types≠[]):fB (.mk 4 m n [] 0 types [] [])
 |Rz {labels:List lK} {kids:List Ex} (hl:k8 5 labels) (hk:kids.length=labels.length):fB (.mk 5 [] [] [] 0 [] labels kids)
 |WO {n:cq} {x:Ex} (hn:cK n=true):fB (.mk 6 [] n [] 0 [] [] [x])
 |inj {n:cq} {x:Ex} (hn:cK n=true):fB (.mk 7 [] n [] 0 [] [] [x])
 |func {labels:List lK} {kids:List Ex} (hl:k8 8 labels) (hk:kids.length=zv labels+1):fB (.mk 8 [] [] [] 0 [] labels kids)
 |call {labels:List lK} {kids:List Ex} (hl:k8 9 labels) (hk:kids.length=labels.length+1):fB (.mk 9 [] [] [] 0 [] labels kids)
 |WQ {n:cq} {x y:Ex} (hn:cK n=true):fB (.mk 10 [] n [] 0 [] [] [x,y])
 |asc {t:Ty} {x:Ex} (ht:ft t):fB (.mk 11 [] [] [] 0 [t] [] [x])
 |cond {t:Ty} {x y z:Ex} (ht:ft t):fB (.mk 12 [] [] [] 0 [t] [] [x,y,z])
 |mat {t:Ty} {labels:List lK} {kids:List Ex} (ht:ft t) (hl:k8 13 labels) (hk:kids.length=labels.length+1):fB (.mk 13 [] [] [] 0 [t] labels kids)
 |lst {t:Ty} {kids:List Ex} (ht:ft t):fB (.mk 14 [] [] [] 0 [t] [] kids)
 |fold {n v:cq} {t:Ty} {x y z:Ex} (ht:ft t) (hn:cK n=true) (hv:cK v=true):fB (.mk 15 [] n v 0 [t] [] [x,y,z])
 |one {n:cq} {x:Ex} (hn:n∈K9):fB (.mk 16 [] n [] 0 [] [] [x])
 |two {n:cq} {x y:Ex} (hn:n∈BK):fB (.mk 16 [] n [] 0 [] [] [x,y])
def WR{s:cq}(a:cK s=true):(!decide (s=[]))=true:=by
 cases s with
 |nil=>cases a
 |cons b c=>rfl
def Ua(f:Nat)(h n e:cq)(a:Int)(c d b:D):V:=.agg (ky f h n e a c d b)
variable{M:Ex} {E J z:D}
def fR.one(a:fR [M] z):∃c e d b,z=.ps c e 8 d [b]:=by
 cases a with|ps a=>cases a with|cons _ a=>cases a;exact⟨_,_,_,_,rfl⟩
def fR.two{c:Ex}(a:fR [M,c] z):∃d f e b h,z=.ps d f 8 e [b,h]:=by
 cases a with|ps a=>cases a with|cons _ a=>cases a with|cons _ a=>cases a;exact⟨_,_,_,_,_,rfl⟩
def fR.three{c e:Ex}(a:fR [M,c,e] z):∃f i h b j d,z=.ps f i 8 h [b,j,d]:=by
 cases a with|ps a=>cases a with|cons _ a=>cases a with|cons _ a=>cases a with|cons _ a=>cases a;exact⟨_,_,_,_,_,_,rfl⟩
def eR.cS(h:eR [] z):z=.ci∨∃c b a,z=.ps c b 8 a []:=by
 exact O2
def fR.cS(h:fR [] z):z=.ci∨∃c b a,z=.ps c b 8 a []:=by
 exact O2
variable{u:cO->VS->Prop} {H:VS}
def QC{n:cq}(b:n∈BK)(a:u (.ret (b5 2)) H):b4 C ca qT [cn n] H u:=by
 simp only[BK,agN,agJ,or_false]at b;rcases b with rfl|rfl|rfl|rfl|rfl|rfl|rfl|rfl|rfl;all_goals refine cj ?_;exact a
def QD{n:cq}(b:n∈K9)(a:u (.ret (b5 1)) H):b4 C ca qT [cn n] H u:=by
 simp only[K9,agN,agJ,or_false]at b;rcases b with rfl|rfl;all_goals refine cj ?_;exact a
def gy(j:Nat)(k n h:cq)(a:Int)(d e c:D)(f:V):Prop:=b4 C ca EN [Ua j k n h a d e c,f] [] fun i b=>b=[]/\i=.ret (b6 true)
def fits_int(a:Int)(hl:eR [] z)(hk:fR [] E):gy 0 [] [] [] a .ci z E (fm [98] 0 false 0):=by
 unfold gy;exact O0
def QE(x:cq)(hl:eR [] z)(hk:fR [] E):gy 1 [] [] x 0 .ci z E (fm [120] 0 false 0):=by
 unfold gy;exact O0
def fits_bool(b:Bool)(hl:eR [] z)(hk:fR [] E):gy 2 [] [] [] (if b then 1 else 0) .ci z E (fm [98] 0 false 0):=by
 cases b;all_goals
  unfold gy;exact O0
def Ub(n:cq)(hl:eR [] z)(hk:fR [] E):gy 3 [] n [] 0 .ci z E (fm [110] 0 false 0):=by
 unfold gy;exact O0
def Uc(b n:cq)(a:D)(hl:eR [] z)(hk:fR [] E):gy 4 b n [] 0 a z E (fm [109,110] (-1) false 0):=by
 unfold gy;exact O0
def QF(n:cq){x:Ex}(hl:eR [] z)(hk:fR [x] E):gy 6 [] n [] 0 .ci z E (fm [110] 0 false 1):=by
 exact VA
def Ud(n:cq){x:Ex}(hl:eR [] z)(hk:fR [x] E):gy 7 [] n [] 0 .ci z E (fm [110] 0 false 1):=by
 exact VA
variable{T:List cq}
def Qh{t:Tok}(c:xj t T=none):∀a∈T,c5 t a=false:=by
 intro a b;have:=List.find?_eq_none.1 c a b;simpa using this
def vS{t:Tok}:∀{a:List cq} {f:cq},xj t a=some f->∃h,∃e:h<a.length,a[h]=f/\c5 t f=true/\∀b (i:b<a.length),b<h->c5 t a[b]=false:=by
 intro a;induction a with
 |nil=>intro f c;cases c
 |cons p q j=>
  intro f c;rw[xj,List.find?_cons]at c;split at c
  ·rename_i d;cases c;exact⟨0,by simp,Z,d,fun b _ c=>om⟩
  ·rename_i d;obtain⟨h,e,o,l,k⟩:=j c;refine⟨h+1,by simpa using e,by simpa using o,l,fun b i n=>?_⟩;cases b with
   |zero=>simpa using d
   |succ b=>exact k b (by simpa using i) om
variable{O v:Nat} {r:Rd}
def Qi(k:v<r.ts.length)(a:List cq)(o:a.length<4294967296)(q:O<a.length)(l:c5 (r.tok v) a[O]=true)(h:∀e (p:e<a.length),e<O->c5 (r.tok v) a[e]=false)(e b d:Nat)(i:nth H e=some (dp r v))(j:u (.ret (b5 O)) H):
  b4 C ca kK [.d (.ps b 0 1 d (eW a)),.fn ko [.bp e 0] []] H u:=by
 refine cj ?_;refine cd.less (dB:=[(0,.d (.ps b 0 1 d (eW a))),(1,.fn ko [.bp e 0] []),(7,b5 a.length),(8,b5 0)]) ⟨Z,Z,int_eq (by simp[eW]),Z,tv⟩ ?_;refine cd.iter (fun c:Nat=>[(0,.d (.ps b 0 1 d (eW a))),(1,.fn ko [.bp e 0] []),(7,b5 a.length),(8,b5 c)]) (fun _=>H) (fun c=>a.length-c) (fun c=>c<=O) ?_ 0 (agt _);intro c n;have f:c<a.length:=om;refine cg (decide_eq_true (by simp only[agx];omega)) ?_;refine bZ Z ?_;refine cc [.str a[c]] (by rw[ck,eW,List.getElem?_map,agy f];rfl) ?_;refine qV r v (r.tok v) a[c] (b0 k) e i ?_;by_cases s:c=O
 ·subst s;rw[l];exact j
 ·rw[h c f om];refine⟨c+1,om,iK,.eS,Z,Z⟩
def Wq(y:r.Wf){fn:Nat->PR Ex}{lo:Nat}(d:∀a h b,lo<=a->a<r.ts.length->fn a=.ok h b->a<b/\b<r.ts.length):∀(j:Nat) (h:Ex) (a:Nat) (k:Ex) (b:Nat),lo<=a->a<r.ts.length->zf fn T r j h a=.ok k b->a<=b/\b<r.ts.length:=by
 intro j;induction j with
 |zero=>intro h a k b _ _ c;cases c
 |succ j p=>
  intro h a k b s f c;rw[zf]at c;split at c
  ·cases c;exact⟨agk _,f⟩
  ·rename_i C n;obtain⟨D,x,K,o,_⟩:=vS n;have e:=y.step f o;split at c
   ·cases c
   ·rename_i q i l;obtain⟨B,w⟩:=d (a+1) q i om e l;obtain⟨I,t⟩:=p _ i k b om w c;exact⟨om,t⟩
def B4(o:r.Wf){fn:Nat->PR Ex}{lo:Nat}(c:∀a e b,lo<=a->a<r.ts.length->fn a=.ok e b->a<b/\b<r.ts.length):∀(a:Nat) (h:Ex) (b:Nat),lo<=a->a<r.ts.length->oH fn T r a=.ok h b->a<b/\b<r.ts.length:=by
 intro a h b j i f;rw[oH]at f;split at f
 ·cases f
 ·rename_i e d k;obtain⟨q,n⟩:=c a e d j i k;obtain⟨p,l⟩:=Wq o c _ e d h b om n f;exact⟨om,l⟩
def z8:List V:=[b5 0,cn [],cn [],cn [],b5 0,.d .ci,.d .ci,.d .ci]
def acK:Nat->Bool:=fun a=>ago a 27
def Mz(l:(C.ff.get v).isSome=true)(a:List cq)(P:a.length<4294967296)(O:r.Wf){fn:Nat->PR Ex}{p:Nat}(o:mA v fn r p)(I:p<r.ts.length)(b h:Nat):
  b4 C ca tw [.bp 0 0,.fn v [.bp 0 0] [],.d (.ps b 0 1 h (eW a))] [dp r p] (K3 r (oH fn a r p)):=by
 have E:=O.len;refine cv acK (fun _=>Z) ?_;refine cg l ?_;refine o.call p (agk _) I 0 _ _ Z (fun x U d u e=>?_) (fun R u d M=>?_)
 ·obtain⟨i,f⟩:=o.lt p x d (agk _) I u;obtain⟨ac,ae,ad,F,D,J,L,A,rfl⟩:=e.eight;refine cD (dB:=[(0,.bp 0 0),(1,.fn v [.bp 0 0] []),(2,.d (.ps b 0 1 h (eW a))),(6,.bp 1 0),(7,.bp 2 0)]) ?_;refine cd.iter (fun _:Nat×Ex×cH=>[(0,.bp 0 0),(1,.fn v [.bp 0 0] []),(2,.d (.ps b 0 1 h (eW a))),(6,.bp 1 0),(7,.bp 2 0)]) (fun k=>[dp r k.1,.box z8,.box (k.2.2.map V.d)]) (fun k=>r.ts.length-k.1)
   (fun k=>p<k.1/\k.1<r.ts.length/\je k.2.1 k.2.2/\∃n,r.ts.length-k.1<n/\oH fn a r p=zf fn a r n k.2.1 k.1) ?_ (d,x,_) ⟨i,f,e,r.ts.length,by show r.ts.length-d<r.ts.length;omega,by rw[oH,u]⟩
  rintro⟨d,x,U⟩ ⟨i,f,e,n,K,c⟩;have i:p<d:=i;have f:d<r.ts.length:=f;have e:je x U:=e;have K:r.ts.length-d<n:=K;have c:oH fn a r p=zf fn a r n x d:=c;obtain⟨ac,ae,ad,F,D,J,L,A,rfl⟩:=e.eight;obtain⟨n,rfl⟩:∃G,n=G+1:=⟨n-1,om⟩;rw[zf]at c;cases j:xj (r.tok d) a with
  |none=>
   rw[j]at c;refine TG O f a P (Qh j) 0 b h Z ?_;refine a8 1 (dQ c e)
  |some ai=>
   rw[j]at c;obtain⟨z,m,rfl,w,y⟩:=vS j;have t:=O.step f w;refine Qi f a P m w y 0 b h Z ?_;refine dK r d (r.tok d) (b0 f) om 0 Z ?_;have B:eu (r.tok d) d=d+1:=by rw[eu,if_neg (sL w)]
   rw[B];have S:nth (eW a) z=some [.str a[z]]:=by rw[ck,eW,List.getElem?_map,agy m];rfl
   repeat first|refine bZ rfl ?_|refine cc _ S ?_|refine cg l ?_
   repeat refine cf ?_
   refine cg l ?_;refine o.call (d+1) om t 0 _ _ ?_ (fun X d2 q2 q s=>?_) (fun R u q2 q=>?_)
   ·exact Z
   ·obtain⟨N,g⟩:=o.lt (d+1) X q2 om t q;rw[q]at c;obtain⟨ag,ab,ah,T,H,aa,Y,Q,rfl⟩:=s.eight;intro af;repeat refine cf ?_
    refine⟨(q2,.mk 16 [] a[z] [] 0 [] [] [x,X],_),⟨by show p<q2;omega,g,.mk .nil .nil (.ps (.cons e (.cons s .nil))),n,by show r.ts.length-q2<n;omega,c⟩,by show r.ts.length-q2<r.ts.length-d;omega,.eD 3,Z,Z⟩
   ·rw[q]at c;refine a8 1 (cJ c)
 ·refine a8 1 (cJ (by rw[oH,M]))
def Rd.Ng(b:Rd):Prop:=∀a,(b.tok a).kind=3->(∃c,Lib.parseUintB 64 (b.tok a).text=.ok c)/\(b.tok a).text.length<281474976710656
variable{G:cq}
def acL(c:G.length<281474976710656)(f:Lib.parseUintB 64 G=.ok v)(b:u (.ret (.dS [.d (.int .u64 (agm v)),.d .yx])) H):b4 C ca wB [cn G,b5 10,b5 64] H u:=by
 refine Ak (args:=[.str G,.int .i64 (agm 10),.int .i64 (agm 64)]) (xs:=[.int .u64 (agm v),.yx]) ?_ ?_ b
 ·have e:agL G.length 281474976710656=true:=by simpa [Nat.blt_eq]using c
  show(match agL G.length 281474976710656 with
   |true=>match Lib.parseUintB 64 G with
    |.ok v=>some (Value.tuple ⟨[.int .u64 (.ofNat v),.nilIface]⟩)
    |_=>none
   |false=>none)=_
  rw[e,f];rfl
 ·intro i a;simp only[agN,agJ,or_false]at a;rcases a with rfl|rfl<;>rfl
def Qj(o:r.Wf)(h:r.Ng)(a p:Nat)(f:p<r.ts.length)(j:a=9223372036854775807∨a=9223372036854775808):
  b4 C ca tC [.bp 0 0,.d (.int .u64 (agm a))] [dp r p] (K3 r (sT a r p)):=by
 have l:=o.len;refine cm ?_;refine eF r p _ (b0 f) 0 Z ?_;refine se r p 3 _ (b0 f) om 0 Z (fun d=>?_) (fun d=>?_)
 ·have e:eu (r.tok p) p=p+1:=by rw[eu,if_neg om]
  rw[e];obtain⟨⟨n,b⟩,k⟩:=h p d;refine acL k b ?_;apply aZ<;>intro i
  ·repeat refine de ?_
   refine fK _ (r.tok p).off 2 ?_;refine a8 1 (cJ (by rw[sT,if_neg om,b];dsimp only;rw[if_pos (ee i)]))
  ·repeat refine de ?_
   have c:¬a<n:=by have:=dq i;omega
   rcases j with rfl|rfl
   ·refine a8 1 (dQ (by rw[sT,if_neg om,b];dsimp only;rw[if_neg c,if_neg om]) (.mk .nil .nil .nil))
   ·refine a8 1 (dQ (by rw[sT,if_neg om,b];dsimp only;rw[if_neg c,if_pos rfl]) (.mk .nil .nil .nil))
 ·refine a8 1 (cJ (by rw[sT,if_pos d]))
def gZ(j:r.Wf)(s:cq){p:Nat}(c:p<r.ts.length)(b a f:Nat)(d:nth H f=some (dp r p))(h:c5 (r.tok p) s=true->p+1<r.ts.length->u (.ret (.dS [])) (H.set f (dp r (p+1))))(i:c5 (r.tok p) s=false->∀k,u (.eH (dt (r.tok p).off 3)) (H.set f (dp r k))):
  b4 C ca wQ [.bp f 0,.d (.ps b 0 1 a (eW [s]))] H u:=by
 refine ep r j [s] (by show 1<4294967296;decide) p c b a f d ?_;cases e:c5 (r.tok p) s with
 |true=>rw[cu,if_pos e];exact h e (j.step c e)
 |false=>rw[cu,if_neg (by rw[e];decide)];exact i e
def qX(j:(C.ff.get v).isSome=true)(a:List cq)(l:a.length<4294967296)(w:r.Wf){fn:Nat->PR Ex}{p:Nat}(n:mA v fn r p)(k:p<r.ts.length)(b c f:Nat)(i:nth H f=some (dp r p)) 
  (k1:∀o d q,oH fn a r p=.ok o q->je o d->u (.ret (.agg (d.map V.d))) (H.set f (dp r q))) (k2:∀off e q,oH fn a r p=.bad off e->u (.eH (dt off e)) (H.set f (dp r q))):
  b4 C ca tw [.bp f 0,.fn v [.bp f 0] [],.d (.ps b 0 1 c (eW a))] H u:=by
 refine b4.one (dM:=[.bp 0 0,.fn v [.bp 0 0] [],.d (.ps b 0 1 c (eW a))]) (P:=Qg r (oH fn a r p)) (Mz j a l w n k b c) f i Z Z Z (fun x s h=>?_);unfold Qg at h;exact OV
def acM(j:r.Wf){fn:Nat->PR Ex}{lo:Nat}(a:mA uU fn r lo):mA yZ (oH fn [[42]] r) r lo:=by
 refine mA.of (B4 j (fun i f b l=>a.lt i f b l)) (fun i d c=>?_);refine cv Wp (fun _=>Z) ?_;intro o;refine qX Z [[42]] dc j (a.up d) c o _ 0 Z (fun f q b e hd=>?_) (fun h p b e=>?_)
 ·exact R2
 ·refine a8 1 (cJ e)
def acN(j:r.Wf){fn:Nat->PR Ex}{lo:Nat}(a:mA yZ fn r lo):mA yY (oH fn [[43],[45],[43,43]] r) r lo:=by
 refine mA.of (B4 j (fun i f b l=>a.lt i f b l)) (fun i d c=>?_);refine cv Wp (fun _=>Z) ?_;intro o;refine qX Z [[43],[45],[43,43]] dc j (a.up d) c o _ 0 Z (fun f q b e hd=>?_) (fun h p b e=>?_)
 ·exact R2
 ·refine a8 1 (cJ e)
def acO(j:r.Wf){fn:Nat->PR Ex}{lo:Nat}(a:mA yX fn r lo):mA yR (oH fn [[97,110,100]] r) r lo:=by
 refine mA.of (B4 j (fun i f b l=>a.lt i f b l)) (fun i d c=>?_);refine cv Wp (fun _=>Z) ?_;intro o;refine qX Z [[97,110,100]] dc j (a.up d) c o _ 0 Z (fun f q b e hd=>?_) (fun h p b e=>?_)
 ·exact R2
 ·refine a8 1 (cJ e)
def adS(j:r.Wf){fn:Nat->PR Ex}{lo:Nat}(a:mA yR fn r lo):mA qN (oH fn [[111,114]] r) r lo:=by
 refine mA.of (B4 j (fun i f b l=>a.lt i f b l)) (fun i d c=>?_);refine cv Wp (fun _=>Z) ?_;intro o;refine qX Z [[111,114]] dc j (a.up d) c o _ 0 Z (fun f q b e hd=>?_) (fun h p b e=>?_)
 ·exact R2
 ·refine a8 1 (cJ e)
def acP:Nat->Bool:=fun a=>ago a 8||ago a 18||ago a 14||ago a 24||ago a 25
variable{g:Nat->PR Ex}
def Qk(w:r.Wf){p:Nat}(c:mA cR g r p)(n:p<r.ts.length):
  b4 C ca sF [.bp 0 0] [dp r p] (K3 r (xI g r p)):=by
 have D:=w.len;refine cv acP (fun _=>Z) ?_;refine kH r p _ (b0 n) om 0 Z (fun a=>?_) (fun a=>?_)
 ·have k:p+1<r.ts.length:=w.go p _ (b0 n) om;intro u;refine gZ w [61] k u _ 0 Z (fun b f=>?_) (fun b t=>?_)
  ·repeat refine ch ?_
   refine c.call (p+1+1) om f 0 _ _ Z (fun E F t i j=>?_) (fun o x t i=>?_)
   ·obtain⟨S,s⟩:=c.lt _ _ _ om f i;obtain⟨V,v,m,I,l,K,P,B,rfl⟩:=j.eight;intro z;repeat refine cf ?_
    intro y;refine gZ w [105,110] s y _ 0 Z (fun d q=>?_) (fun d t=>?_)
    ·repeat refine ch ?_
     refine c.call (t+1) om q 0 _ _ Z (fun G d2 q2 h e=>?_) (fun o x q2 h=>?_)
     ·obtain⟨V,v,m,I,l,K,P,B,rfl⟩:=e.eight;intro A;repeat refine cf ?_
      intro R;repeat refine cf ?_
      refine a8 1 (dQ (by simp only[xI,dh,a,fj,cu,b,i,d,h,ne_eq,not_true,if_false,if_true,PR.map]) (.mk .nil .nil (.ps (.cons j (.cons e .nil)))))
     ·refine a8 1 (cJ (by simp only[xI,dh,a,fj,cu,b,i,d,h,ne_eq,not_true,if_false,if_true,PR.map]))
    ·refine a8 1 (cJ (by simp only[xI,dh,a,fj,cu,b,i,d,ne_eq,not_true,if_false,if_true,agj,PR.map]))
   ·refine a8 1 (cJ (by simp only[xI,dh,a,fj,cu,b,i,ne_eq,not_true,if_false,if_true]))
  ·refine a8 1 (cJ (by simp only[xI,dh,a,fj,cu,b,ne_eq,not_true,if_false,agj]))
 ·refine a8 1 (cJ (by simp only[xI,dh,a,ne_eq,not_false_eq_true,if_true]))
variable{N:List cH}
def FL(d:Nat)(n:cq)(b:D){types:List Ty}{kids:List Ex}(h:fA types b)(a:jt kids N):
  b4 C ca jL [.agg (jx d n b (.d .ci) (.d .ci)),kV 0 8 N,.d .ci] [kO 8 N] fun k c=>∃l,c=[l]/\fW 0 l=true/\cM k=true/\∃j,je (kq d n types kids []) j/\k=.ret (.agg (j.map V.d)):=by
 have f:kq d n types kids []=.mk d [] n [] 0 types [] kids:=by simp[kq,cG]
 rw[f];refine cm ?_;refine cj ?_;refine cj ?_;refine cd.loop ?_;refine cj ?_;refine cd.loop ?_;refine cd.loop ?_;rcases N with _|⟨i,e⟩;all_goals
  refine cd.loop ?_;first
   |refine cU.freeze 0 (es:=8) (l:=i::e) rfl (gk _) (by repeat' (first|exact tv|exact fun _=>⟨rfl,by simp⟩|refine agO ?_ ?_)) (fun p=>?_)
   |skip
  refine cU.drop 1 Z Z Z (cU.now Z ⟨_,Z,Z,Z,_,.mk h .nil ?_,Z⟩);first|exact a.TD|exact a.psD sm
def Dq{f:FuncId}{dM b:List V}{o:cN}{P:cO->cN->Prop}(t:b4 C ca f dM [o] fun d e=>∃a,e=[a]/\fW 0 a=true/\cM d=true/\P d a)(i:Nat)(hσ:nth H i=some o)(hc:fW 0 o=true)(c:fu 1 dM=true)(n:b=hU (jT [i] H.length) dM)(k:∀d a,P d a->u d (H.set i a)):
  b4 C ca f b H u:=by
 refine t.frame [i] Z sm (fun j i' h=>?_) c n (fun q l h _=>?_)
 ·exact Za
 ·obtain⟨a,rfl,s,p,w⟩:=h;rw[mv _ _ p];simp only[agz,agA,fh _ _ s,merge,List.append_nil];exact k q a w
def Oj{π:Nat->Nat}(l:List eo)(p:eo):some (pg (l.map eo.n++[p.n]))=some (hV π (pg ((l++[p]).map eo.n))):=by
 exact X5
def vT{xs:List FE}{l:List eo}{x:FE}(h:(xs.map FE.n).Nodup)(hX:xs.map FE.n=l.map eo.n)(zH:x.n ∉ l.map eo.n):((xs++[x]).map FE.n).Nodup:=by
 exact YZ
variable{A:Nat->Nat}
def DV(a:FE)(b:A v=O):some (cN.box [V.ms O 9 0 1 1])=some (hV A (.box [kV v 9 (([]++[a]:List FE).map pe)])):=by
 subst b;rfl
def vU(b:FE)(a:List FE)(c:FE)(d:A v=O):some (cN.box [V.ms O 9 0 ((a.map pe).length+1+1) ((a.map pe).length+1+1)])=some (hV A (.box [kV v 9 (((b::a)++[c]).map pe)])):=by
 subst d;simp[kV,hV,hU,gW]
def zh(a:FE):some (cN.row 9 [(pe a).map V.d])=some (hV A (kO 9 (([]++[a]:List FE).map pe))):=lj A 9 (pe a)
def vV(b:FE)(a:List FE)(c:FE):some (cN.row 9 (agE ((a.map pe).length+1) (agG 0 (agw (fun d=>agw V.d d) (pe b::a.map pe)))++[(pe c).map V.d]))=some (hV A (kO 9 (((b::a)++[c]).map pe))):=by
 rw[agD];exact jQ A 9 (pe b) (a.map pe) (pe c)
def B5(l:List cH)(a:agL O v=true):fW v (.box [kV O 9 l])=true:=by
 show(bd v (kV O 9 l)&&true)=true;rw[kZ 9 l a];rfl
def GvS(f:Rd)(e:PR Ex)(c:cO)(b:VS):Prop:=∃a d,b=[.box a,d]/\cM c=true/\fu 0 a=true/\fW 0 d=true/\Qg f e c a
variable{Q:PR Ex}
def ZP{a:cH}{o:cN}(d:Q=.ok M v)(c:je M a)(b:fW 0 o=true):cU 2 (.ret (.agg (a.map V.d))) (dp r v::o::H) (GvS r Q):=by
 subst d;exact cU.drop 2 Z (zc Z (lp 2 _ b)) (qW 2 a) (cU.now Z ⟨_,_,Z,qW 0 a,Z,b,Z,a,c,Z⟩)
def Dr{b:Nat}{o:cN}(c:Q=.bad O b)(a:fW 0 o=true):cU 2 (.eH (dt O b)) (dp r v::o::H) (GvS r Q):=by
 subst c;exact cU.drop 2 Z (zc Z (lp 2 _ a)) Z (cU.now Z ⟨_,_,Z,Z,Z,a,v,Z,Z⟩)
def zi{b:Nat}{n:cq}{c:V}(d:agL b v=true)(a:bd v c=true):fu v [.agg (jx O n z (.d .ci) (.d .ci)),kV b 8 N,c]=true:=by
 show(bd v (.agg (jx O n z (.d .ci) (.d .ci)))&&(bd v (kV b 8 N)&&(bd v c&&true)))=true;rw[kZ 8 N d,a];rfl
def vW{e b i':Nat}{n:cq}{c v':V}(d:A b=i')(a:v'=gW A c): [V.agg (jx e n z (.d .ci) (.d .ci)),kV i' 8 N,v']=hU A [.agg (jx e n z (.d .ci) (.d .ci)),kV b 8 N,c]:=by
 subst d a;show _=[gW A _,gW A (kV b 8 N),gW A c];rw[nB];rfl
def FM(b:FE)(a:List FE)(c:FE):some (cN.row 9 (agE ((a.map pe).length+1) (agG 0 (agw (fun d=>agw V.d d) (pe b::a.map pe)))++[(pe c).map V.d]))=some (.row 9 (dg true ((b::a)++[c]))):=by
 rw[List.drop_zero,agr sm];simp[dg,zb,Function.comp_def]
def vX{p:Nat}(a:c5 (r.tok p) G=true):cu r [G] p=.ok () (p+1):=by
 rw[cu,if_pos a];rfl
abbrev gEl(c:cq)(b:Nat)(a:cH):FE:=⟨c,0,[],[],.ci,.ci,false,[],.ps b 0 8 1 [a]⟩
def J2(xs:List FE):List cH:=xs.map pe
def ZQ:Nat->Bool:=fun a=>ago a 18
def adT:Nat->Bool:=fun a=>ago a 10||ago a 16||ago a 17||ago a 21
def J3(aj:r.Wf)(a:cq)(n:Nat){kids:List Ex}{p:Nat}(Q:mA cR g r p)(ap:p<r.ts.length)(ab:jt kids N)(O:kids.length<=1):
  b4 C ca uV [.bp 0 0,.agg (jx n [] .ci (.d .ci) (.d .ci)),kV 1 8 N,cn a] [dp r p,kO 8 N] (GvS r (jP g r a n kids p)):=by
 have ax:=aj.len;refine cm ?_;refine b4.body ZQ (fun _=>Z) ?_;refine cI r p (r.tok p) a (b0 ap) om 0 Z (fun t=>?_) (fun t=>?_)
 ·refine Dq (P:=fun K s=>fW 0 s=true/\∃D,je (kq n [] [] kids []) D/\K=.ret (.agg (D.map V.d))) (dM:=[.agg (jx n [] .ci (.d .ci) (.d .ci)),kV 0 8 N,.d .ci]) ((FL n [] .ci .nil ab).mono fun K T t=>by obtain⟨s,q,R,x,S⟩:=t;exact⟨s,q,R,x,R,S⟩) 1 Z (gr 8 N) (zi Z Z) (vW Z Z) (fun K s R=>?_);obtain⟨D,f,rfl⟩:=R.2;obtain⟨F,av,aw,G,l,E,H,J,rfl⟩:=f.eight;exact ZP (by rw[jP,gA,if_pos t];rfl) f R.1
 ·refine cD (dB:=[(0,.bp 0 0),(1,cn [44]),(2,cn a),(3,.fn r6 [] [.bp 2 0,.bp 7 0,.bp 5 0])]) ?_;refine cd.gone ?_;refine cd.iter (fun _:Nat×List eo×List FE=>[(0,.bp 0 0),(1,cn [44]),(2,cn a),(3,.fn r6 [] [.bp 2 0,.bp 7 0,.bp 5 0])])
   (fun e=>[dp r e.1,kO 8 N,.box [.bp 0 0],.box (jx n [] .ci (.d .ci) (.d .ci)),.box jz,.box [kV 8 9 (J2 e.2.2)],pg (e.2.1.map eo.n),.box [.map 6],kO 9 (J2 e.2.2)]) (fun e=>r.ts.length-e.1)
   (fun e=>p<=e.1/\e.1<r.ts.length/\e.2.2.length<=e.1/\kI e.2.1 e.2.2/\(e.2.2.map FE.n).Nodup/\(∀y∈e.2.1,y.val.length<=1)/\∃w,r.ts.length-e.1<=w/\ji (lP g r) r a r.ts.length [] p=ji (lP g r) r a w e.2.1 e.1) ?_ (p,[],[]) ⟨agk _,ap,agt _,.nil,agM,by simp,_,by show r.ts.length-p<=r.ts.length;omega,rfl⟩
  rintro⟨c,z,I⟩ ⟨aq,al,au,ai,ah,af,w,ad,ao⟩;have aJ:p<=c:=aq;have an:c<r.ts.length:=al;have B:I.length<=c:=au;have ac:kI z I:=ai;have ar:(I.map FE.n).Nodup:=ah;have hv:∀y∈z,y.val.length<=1:=af;have aL:r.ts.length-c<=w:=ad;have j:ji (lP g r) r a r.ts.length [] p=ji (lP g r) r a w z c:=ao;clear aq al au ai ah af ad ao;obtain⟨w,rfl⟩:∃aE,w=aE+1:=⟨w-1,om⟩;have aG:=ac.names;have b:jP g r a n kids p=(ji (lP g r) r a (w+1) z c).map (kq n [] [] kids):=by rw[jP,gA,if_neg (by rw[t];decide),j]
  rw[ji]at b j;refine b4.body adT (fun _=>Z) ?_;refine p7 r aj c an (z.map eo.n) 0 6 dc Z Z (fun i d=>?_) (fun i d=>?_) (fun i=>?_)
  ·have ak:c+1<r.ts.length:=aj.go c _ (b0 an) om;intro aA;refine gZ aj [58] ak aA _ 0 Z (fun q L=>?_) (fun q az=>?_)
   ·repeat refine ch ?_
    refine Q.call (c+1+1) om L 0 _ _ ?_ (fun am D q1 A f=>?_) (fun aI aK q1 A=>?_)
    ·exact Z
    ·obtain⟨aF,M⟩:=Q.lt _ _ _ om L A;obtain⟨F,av,aw,G,l,E,H,J,rfl⟩:=f.eight;intro aM;repeat refine cf ?_
     intro h;repeat refine cf ?_
     intro aN;have u:kI (z++[⟨(r.tok c).text,[],cV,false,[am]⟩]) (I++[gEl (r.tok c).text h [.int .i64 (agm F),.str av,.str aw,.str G,.int .i64 l,E,H,J]]):=ac.snoc rfl rfl rfl (.mk .nil .nil) (.ps (.cons f .nil));have k:=vT (x:=gEl (r.tok c).text h [.int .i64 (agm F),.str av,.str aw,.str G,.int .i64 l,E,H,J]) ar aG d;have m:∀y∈z++[(⟨(r.tok c).text,[],cV,false,[am]⟩:eo)],y.val.length<=1:=by
      exact aak
     have ag:lP g r z c=.ok (z++[⟨(r.tok c).text,[],cV,false,[am]⟩]) q1:=by simp only[lP,eJ,i,ne_eq,not_true,if_false,d,fj,cu,q,if_true,A,PR.map]
     rw[ag]at b j;dsimp only at b j;rcases I with _|⟨U,o⟩;all_goals
      first
       |refine a6 rfl (a6 ⟨agl rfl,agl rfl⟩ (a7 rfl ?_))
       |refine a6 rfl (a6 ⟨rfl,rfl,by simp,agk _,rB (by simp only[agn,agq]at B⊢;omega) (agk _) (agl rfl)⟩ (a7 rfl (a7 (lk _) ?_)))
      refine cI r q1 (r.tok q1) a (b0 M) om 0 ?_ (fun x=>?_) (fun x=>?_)
      ·exact Z
      ·rw[if_pos x]at b;first
        |refine b4.two (dM:=[.agg (jx n [] .ci (.d .ci) (.d .ci)),kV 1 8 N,.ms 0 9 0 1 1]) (P:=fun K _ s=>fW 0 s=true/\∃D,je (kq n [] [] kids _) D/\K=.ret (.agg (D.map V.d))) ((sQ n [] .ci .nil ab u k m O 1 rfl dc).mono (fun K T t=>by obtain⟨p,s,W,aa,v,Y,X⟩:=t;exact⟨p,s,W,Y,aa,v,v,X⟩)) 10 1 dc rfl rfl (jv 0 9 _) (gr 8 N) (zi rfl rfl) (vW rfl rfl) (fun K aD aC t=>?_)
        |refine b4.two (dM:=[.agg (jx n [] .ci (.d .ci) (.d .ci)),kV 1 8 N,.ms 0 9 0 ((o.map pe).length+1+1) ((o.map pe).length+1+1)]) (P:=fun K _ s=>fW 0 s=true/\∃D,je (kq n [] [] kids _) D/\K=.ret (.agg (D.map V.d))) ((sQ n [] .ci .nil ab u k m O ((o.map pe).length+1+1) sm (by simp only[agn,agq]at B⊢;omega)).mono (fun K T t=>by obtain⟨p,s,W,aa,v,Y,X⟩:=t;exact⟨p,s,W,Y,aa,v,v,X⟩)) 10 1 dc (FM U o (gEl (r.tok c).text h _)) rfl (jv 0 9 _) (gr 8 N) (zi rfl rfl) (vW rfl rfl) (fun K aD aC t=>?_)
       obtain⟨ay,D,f,rfl⟩:=t;obtain⟨F,av,aw,G,l,E,H,J,rfl⟩:=f.eight;exact ZP (by rw[b];rfl) f ay
      ·rw[if_neg (by rw[x];decide)]at b j;intro aB;refine gZ aj [44] M aB _ 0 ?_ (fun S ae=>?_) (fun S az=>?_)
       ·exact Z
       ·rw[vX S]at j;refine⟨(q1+1,_,_),⟨by show p<=q1+1;omega,ae,by simp only[agp,agn,agv]at B⊢;omega,u,k,m,w,by show r.ts.length-(q1+1)<=w;omega,j⟩,by show r.ts.length-(q1+1)<r.ts.length-c;omega,.pick 8 [0,1,2,3,4,5,6,7,10] ⟨Z,Z,Z,Z,tv⟩ Z Z Z Z Z dc ⟨Z,Z,HB _ _ _,gH _ _ _,Z,Z,Z,Z,Z,Z,by first|exact DV (gEl (r.tok c).text h _) rfl|exact vU U o (gEl (r.tok c).text h _) rfl,B5 _ Z,Oj z ⟨(r.tok c).text,[],cV,false,[am]⟩,lp _ _ (iM _),Z,Z,by first|exact zh (gEl (r.tok c).text h _)|exact vV U o (gEl (r.tok c).text h _),gH _ _ _,tv⟩,Z,Z⟩
       ·exact Dr (by rw[b];simp only[cu,S,if_false,agj,PR.map]) (gr 8 N)
    ·exact Dr (by rw[b];simp only[lP,eJ,i,ne_eq,not_true,if_false,d,fj,cu,q,if_true,A,PR.map]) (gr 8 N)
   ·exact Dr (by rw[b];simp only[lP,eJ,i,ne_eq,not_true,if_false,d,fj,cu,q,agj,PR.map]) (gr 8 N)
  ·exact Dr (by rw[b];simp only[lP,eJ,i,ne_eq,not_true,if_false,d,if_true,PR.map]) (gr 8 N)
  ·exact Dr (by rw[b];simp only[lP,eJ,i,ne_eq,not_false_eq_true,if_true,PR.map]) (gr 8 N)
def adU:Nat->Bool:=fun a=>ago a 6||ago a 12||ago a 16||ago a 22||ago a 26||ago a 32||ago a 33
variable{m:Nat->PR Ty}
def MA(V:r.Wf){p:Nat}(D:ef m r p)(c:mA cR g r p)(K:p<r.ts.length):
  b4 C ca kn [.bp 0 0] [dp r p] (K3 r (oT m g r p)):=by
 have E:=V.len;refine cv adU (fun _=>Z) ?_;refine ph r V m p K D 0 Z (fun M U y a j=>?_) (fun h s y a=>?_)
 ·obtain⟨Q,q⟩:=kr V (fun F M y A b f=>D.lt F M y A b f) K a;obtain⟨O,ab,tn,T,X,rfl⟩:=j.cZ;intro ag;repeat refine ch ?_
  refine c.call y om q 0 _ _ ?_ (fun ad ae q1 d B=>?_) (fun h s q1 d=>?_)
  ·exact Z
  ·obtain⟨G,w⟩:=c.lt _ _ _ om q d;obtain⟨H,L,J,P,l,n,R,I,rfl⟩:=B.eight;intro Y;repeat refine cf ?_
   intro v;refine gZ V [116,104,101,110] w v _ 0 Z (fun b o=>?_) (fun b y=>?_)
   ·repeat refine ch ?_
    refine c.call (q1+1) om o 0 _ _ ?_ (fun af d2 q2 e i=>?_) (fun h s q2 e=>?_)
    ·exact Z
    ·obtain⟨z,t⟩:=c.lt _ _ _ om o e;obtain⟨H,L,J,P,l,n,R,I,rfl⟩:=i.eight;intro aa;repeat refine cf ?_
     intro u;refine gZ V [101,108,115,101] t u _ 0 Z (fun f S=>?_) (fun f y=>?_)
     ·repeat refine ch ?_
      refine c.call (q2+1) om S 0 _ _ ?_ (fun ac d3 q3 x k=>?_) (fun h s q3 x=>?_)
      ·exact Z
      ·obtain⟨H,L,J,P,l,n,R,I,rfl⟩:=k.eight;intro N;repeat refine cf ?_
       intro W;repeat refine cf ?_
       refine a8 1 (dQ (by simp only[oT,fj,cu,PR.map,if_true,a,d,e,x,b,f]) (.mk (.ps (.cons j .nil) sm) .nil (.ps (.cons B (.cons i (.cons k .nil))))))
      ·refine a8 1 (cJ (by simp only[oT,fj,cu,PR.map,if_true,a,d,e,x,b,f]))
     ·refine a8 1 (cJ (by simp only[oT,fj,cu,PR.map,if_true,if_false,agj,a,d,e,b,f]))
    ·refine a8 1 (cJ (by simp only[oT,fj,cu,PR.map,if_true,a,d,e,b]))
   ·refine a8 1 (cJ (by simp only[oT,fj,cu,PR.map,if_true,if_false,agj,a,d,b]))
  ·refine a8 1 (cJ (by simp only[oT,a,d]))
 ·refine a8 1 (cJ (by simp only[oT,a]))
def adV:Nat->Bool:=fun a=>ago a 6||ago a 12||ago a 18||ago a 28||ago a 38||ago a 24||ago a 34||ago a 44||ago a 45
def MB(o:r.Wf){p:Nat}(v:ef m r p)(h:mA cR g r p)(E:p<r.ts.length):
  b4 C ca rm [.bp 0 0] [dp r p] (K3 r (lQ m g r p)):=by
 have N:=o.len;refine cv adV (fun _=>Z) ?_;refine ph r o m p E v 0 Z (fun aa ag j b s=>?_) (fun l K j b=>?_)
 ·obtain⟨ae,I⟩:=kr o (fun T aa j c e f=>v.lt T aa j c e f) E b;obtain⟨ad,aj,tn,af,ai,rfl⟩:=s.cZ;intro ap;refine kH r j _ (b0 I) om 0 ?_ (fun d=>?_) (fun d=>?_)
  ·exact Z
  ·have u:j+1<r.ts.length:=o.go j _ (b0 I) om;intro J;refine gZ o [44] u J _ 0 Z (fun c B=>?_) (fun c j=>?_)
   ·refine kH r (j+1+1) _ (b0 B) om 0 ?_ (fun a=>?_) (fun a=>?_)
    ·exact Z
    ·have H:j+1+1+1<r.ts.length:=o.go (j+1+1) _ (b0 B) om;intro O;refine gZ o [105,110] H O _ 0 Z (fun e D=>?_) (fun e j=>?_)
     ·repeat refine ch ?_
      refine h.call (j+1+1+1+1) om D 0 _ _ ?_ (fun am an q1 i V=>?_) (fun l K q1 i=>?_)
      ·exact Z
      ·obtain⟨U,R⟩:=h.lt _ _ _ om D i;obtain⟨W,Y,X,F,w,x,G,A,rfl⟩:=V.eight;intro ac;repeat refine cf ?_
       intro Q;refine gZ o [102,114,111,109] R Q _ 0 Z (fun f y=>?_) (fun f j=>?_)
       ·repeat refine ch ?_
        refine h.call (q1+1) om y 0 _ _ ?_ (fun ao d2 q2 k q=>?_) (fun l K q2 k=>?_)
        ·exact Z
        ·obtain⟨M,P⟩:=h.lt _ _ _ om y k;obtain⟨W,Y,X,F,w,x,G,A,rfl⟩:=q.eight;intro ab;repeat refine cf ?_
         intro L;refine gZ o [61,62] P L _ 0 Z (fun n z=>?_) (fun n j=>?_)
         ·repeat refine ch ?_
          refine h.call (q2+1) om z 0 _ _ ?_ (fun al d3 q3 S t=>?_) (fun l K q3 S=>?_)
          ·exact Z
          ·obtain⟨W,Y,X,F,w,x,G,A,rfl⟩:=t.eight;intro ah;repeat refine cf ?_
           intro ak;repeat refine cf ?_
           refine a8 1 (dQ (by simp only[lQ,dh,fj,cu,PR.map,ne_eq,not_true,if_false,if_true,b,i,k,S,d,a,c,e,f,n]) (.mk (.ps (.cons s .nil) sm) .nil (.ps (.cons V (.cons q (.cons t .nil))))))
          ·refine a8 1 (cJ (by simp only[lQ,dh,fj,cu,PR.map,ne_eq,not_true,if_false,if_true,b,i,k,S,d,a,c,e,f,n]))
         ·refine a8 1 (cJ (by simp only[lQ,dh,fj,cu,PR.map,ne_eq,not_true,if_false,if_true,agj,b,i,k,d,a,c,e,f,n]))
        ·refine a8 1 (cJ (by simp only[lQ,dh,fj,cu,PR.map,ne_eq,not_true,if_false,if_true,b,i,k,d,a,c,e,f]))
       ·refine a8 1 (cJ (by simp only[lQ,dh,fj,cu,PR.map,ne_eq,not_true,if_false,if_true,agj,b,i,d,a,c,e,f]))
      ·refine a8 1 (cJ (by simp only[lQ,dh,fj,cu,PR.map,ne_eq,not_true,if_false,if_true,b,i,d,a,c,e]))
     ·refine a8 1 (cJ (by simp only[lQ,dh,fj,cu,PR.map,ne_eq,not_true,if_false,if_true,agj,b,d,a,c,e]))
    ·refine a8 1 (cJ (by simp only[lQ,dh,cu,ne_eq,not_true,not_false_eq_true,if_false,if_true,b,d,a,c]))
   ·refine a8 1 (cJ (by simp only[lQ,dh,cu,ne_eq,not_true,if_false,agj,b,d,c]))
  ·refine a8 1 (cJ (by simp only[lQ,dh,ne_eq,not_false_eq_true,if_true,b,d]))
 ·refine a8 1 (cJ (by simp only[lQ,b]))
def J4(o:r.Wf)(t:cq){p:Nat}(i:ef m r p)(d:p<r.ts.length):
  b4 C ca uW [.bp 0 0,cn t] [dp r p] (K3 r (iH m r t p)):=by
 have s:=o.len;refine cm ?_;refine cI r p _ [58,58] (b0 d) om 0 Z (fun a=>?_) (fun a=>?_)
 ·have e:=o.step d a;refine kH r (p+1) _ (b0 e) om 0 Z (fun c=>?_) (fun c=>?_)
  ·have f:p+1+1<r.ts.length:=o.go (p+1) _ (b0 e) om;refine qV r (p+1+1) _ [91] (b0 f) 0 Z ?_;apply aZ<;>intro b
   ·refine vx r o m (p+1+1) f ⟨fun j y n x=>i.lt j y n om,fun j x=>i.call j om⟩ 0 Z (fun B w n k h=>?_) (fun l q n k=>?_)
    ·refine a8 1 (dQ (by simp only[iH,dh,PR.map,a,b,c,k,ne_eq,not_true,if_false,if_true]) (.mk h .nil .nil))
    ·refine a8 1 (cJ (by simp only[iH,dh,PR.map,a,b,c,k,ne_eq,not_true,if_false,if_true]))
   ·refine a8 1 (dQ (by simp only[iH,dh,PR.map,a,b,c,ne_eq,not_true,if_false,if_true,agj]) (.mk .nil .nil .nil))
  ·refine a8 1 (cJ (by simp only[iH,dh,PR.map,a,c,ne_eq,not_false_eq_true,if_true]))
 ·refine qV r p _ [91] (b0 d) 0 Z ?_;apply aZ<;>intro b
  ·refine vx r o m p d i 0 Z (fun B w n k h=>?_) (fun l q n k=>?_)
   ·refine a8 1 (dQ (by simp only[iH,PR.map,a,b,k,if_false,if_true,agj]) (.mk h .nil .nil))
   ·refine a8 1 (cJ (by simp only[iH,PR.map,a,b,k,if_false,if_true,agj]))
  ·refine a8 1 (dQ (by simp only[iH,a,b,if_false,agj]) (.mk .nil .nil .nil))
def dv{c a:Type}{f:c->a}{e:PR c}{b:a}(h:e.map f=.ok b v):∃d,e=.ok d v/\f d=b:=by
 cases e with
 |ok d j=>cases h;exact⟨d,rfl,rfl⟩
 |bad i k=>cases h
def Wz(w:r.Wf){lo:Nat}(f:∀p b q,lo<=p->p<r.ts.length->wX m g r p=.ok b q->p<q/\q<r.ts.length):∀(j p:Nat) (b:Ex) (q:Nat),lo<=p->p<r.ts.length->qj m g r j p=.ok b q->p<q/\q<r.ts.length:=by
 intro j;induction j with
 |zero=>intro p b q _ _ h;cases h
 |succ j ih=>
  intro p b q l h2 h;rw[qj]at h;split at h
  ·exact abO
  ·split at h
   ·cases h
   ·rename_i o q1 k;obtain⟨c,d⟩:=f p o q1 l h2 k;split at h
    ·cases h;exact⟨c,d⟩
    ·rename_i s n;obtain⟨y,x,_,i,_⟩:=vS n;obtain⟨a,e,_⟩:=dv h;obtain⟨t,d2⟩:=f (q1+1) a q om (w.step d i) e;exact⟨om,d2⟩
def adW:Nat->Bool:=fun a=>ago a 10||ago a 25
def acQ(P:r.Wf){lo:Nat}(a:mA yY (wX m g r) r lo):∀(C e y:Nat),lo<=e->r.ts.length-e<=C->r.ts.length-e<=y->mA yX (qj m g r y) r e:=by
 have z:=P.len;intro C;induction C with
 |zero=>intro e y v u E;exact⟨fun t R k J K=>om,fun t J K=>om⟩
 |succ C F=>
  intro e y v u E;refine mA.of (fun t R k J K=>Wz P a.lt y t R k om K) (fun t G B=>?_);obtain⟨y,rfl⟩:∃A,y=A+1:=⟨y-1,om⟩;refine cv adW (fun _=>Z) ?_;refine cI r t (r.tok t) [110,111,116] (b0 B) om 0 Z (fun c=>?_) (fun c=>?_)
  ·have j:=P.step B c;refine(F (t+1) y om om om).call (t+1) (agk _) j 0 _ _ Z (fun R M k q h=>?_) (fun o w k q=>?_)
   ·obtain⟨S,V,C,D,n,p,I,x,rfl⟩:=h.eight;intro K;refine a8 1 (dQ (by rw[qj,if_pos c,q];rfl) (.mk .nil .nil (.ps (.cons h .nil))))
   ·refine a8 1 (cJ (by rw[qj,if_pos c,q];rfl))
  ·refine a.call t om B 0 _ _ Z (fun R M k q h=>?_) (fun o w k q=>?_)
   ·obtain⟨H,j⟩:=a.lt t R k om B q;obtain⟨S,V,C,D,n,p,I,x,rfl⟩:=h.eight;refine cd.loop ?_;refine bZ Z ?_;refine a6 dc ?_;refine cI r k (r.tok k) [61,61] (b0 j) om 0 Z (fun f=>?_) (fun f=>?_)
    ·have i:=P.step j f;repeat refine ch ?_
     refine a.call (k+1) om i 0 _ _ ?_ (fun L d2 q2 d b=>?_) (fun o w q2 d=>?_)
     ·exact Z
     ·obtain⟨S,V,C,D,n,p,I,x,rfl⟩:=b.eight;intro K;repeat refine ch ?_
      refine a8 1 (dQ (by rw[qj,if_neg (by rw[c];decide),q];simp only[xj,agC,f,d,PR.map]) (.mk .nil .nil (.ps (.cons h (.cons b .nil)))))
     ·refine a8 1 (cJ (by rw[qj,if_neg (by rw[c];decide),q];simp only[xj,agC,f,d,PR.map]))
    ·refine cd.loop ?_;refine bZ Z ?_;refine a6 dc ?_;refine cI r k (r.tok k) [61,61,61] (b0 j) om 0 Z (fun l=>?_) (fun l=>?_)
     ·have i:=P.step j l;repeat refine ch ?_
      refine a.call (k+1) om i 0 _ _ ?_ (fun L d2 q2 d b=>?_) (fun o w q2 d=>?_)
      ·exact Z
      ·obtain⟨S,V,C,D,n,p,I,x,rfl⟩:=b.eight;intro K;repeat refine ch ?_
       refine a8 1 (dQ (by rw[qj,if_neg (by rw[c];decide),q];simp only[xj,agC,f,l,d,PR.map]) (.mk .nil .nil (.ps (.cons h (.cons b .nil)))))
      ·refine a8 1 (cJ (by rw[qj,if_neg (by rw[c];decide),q];simp only[xj,agC,f,l,d,PR.map]))
     ·refine cd.loop ?_;refine bZ Z ?_;refine a6 dc ?_;refine cI r k (r.tok k) [60] (b0 j) om 0 Z (fun s=>?_) (fun s=>?_)
      ·have i:=P.step j s;repeat refine ch ?_
       refine a.call (k+1) om i 0 _ _ ?_ (fun L d2 q2 d b=>?_) (fun o w q2 d=>?_)
       ·exact Z
       ·obtain⟨S,V,C,D,n,p,I,x,rfl⟩:=b.eight;intro K;repeat refine ch ?_
        refine a8 1 (dQ (by rw[qj,if_neg (by rw[c];decide),q];simp only[xj,agC,f,l,s,d,PR.map]) (.mk .nil .nil (.ps (.cons h (.cons b .nil)))))
       ·refine a8 1 (cJ (by rw[qj,if_neg (by rw[c];decide),q];simp only[xj,agC,f,l,s,d,PR.map]))
      ·refine cd.loop ?_;refine a8 1 (dQ (by rw[qj,if_neg (by rw[c];decide),q];simp only[xj,agC,f,l,s]) h)
   ·refine a8 1 (cJ (by rw[qj,if_neg (by rw[c];decide),q]))
def TH(n:r.Wf)(b:r.Ng)(a p:Nat)(i:p<r.ts.length)(j:a=9223372036854775807∨a=9223372036854775808)(f:Nat)(c:nth H f=some (dp r p))(k1:∀k d q,sT a r p=.ok k q->je k d->u (.ret (.agg (d.map V.d))) (H.set f (dp r q))) 
  (k2:∀off e q,sT a r p=.bad off e->u (.eH (dt off e)) (H.set f (dp r q))):b4 C ca tC [.bp f 0,.d (.int .u64 (agm a))] H u:=by
 refine b4.one (dM:=[.bp 0 0,.d (.int .u64 (agm a))]) (P:=Qg r (sT a r p)) (Qj n b a p i j) f c Z Z Z (fun o l h=>?_);unfold Qg at h;exact OV
def Om(e:r.Wf){b p:Nat}(d:p<r.ts.length)(a:sT b r p=.ok M v):p<v/\v<r.ts.length:=by
 rw[sT]at a;split at a
 ·cases a
 ·rename_i c;have c:(r.tok p).kind=3:=by simpa using c
  have:=e.go p _ (b0 d) om;split at a
  ·split at a
   ·cases a
   ·cases a;exact⟨om,this⟩
  ·cases a
def WA(w:r.Wf){lo:Nat}(i:∀p b q,lo<=p->p<r.ts.length->od m g r p=.ok b q->p<q/\q<r.ts.length):∀(f p:Nat) (b:Ex) (q:Nat),lo<=p->p<r.ts.length->tP m g r f p=.ok b q->p<q/\q<r.ts.length:=by
 intro f;induction f with
 |zero=>intro p b q _ _ h;cases h
 |succ f ih=>
  intro p b q j h2 h;rw[tP]at h;split at h
  ·exact abO
  ·split at h
   ·rename_i hn;have:=w.step h2 hn;obtain⟨c,d⟩:=Om w this h;exact⟨om,d⟩
   ·exact i p b q j h2 h
def adX:Nat->Bool:=fun a=>ago a 8
def acR(C:r.Wf)(s:r.Ng){lo:Nat}(o:mA r5 (od m g r) r lo):∀(q a i:Nat),lo<=a->r.ts.length-a<=q->r.ts.length-a<=i->mA uU (tP m g r i) r a:=by
 have P:=C.len;intro q;induction q with
 |zero=>intro a i K I S;exact⟨fun e x n v D=>om,fun e v D=>om⟩
 |succ q V=>
  intro a i K I S;refine mA.of (fun e x n v D=>WA C o.lt i e x n om D) (fun e u f=>?_);obtain⟨i,rfl⟩:∃R,i=R+1:=⟨i-1,om⟩;refine cv adX (fun _=>Z) ?_;refine cI r e (r.tok e) [108,101,110,103,116,104] (b0 f) om 0 Z (fun c=>?_) (fun c=>?_)
  ·have p:=C.step f c;refine(V (e+1) i om om om).call (e+1) (agk _) p 0 _ _ Z (fun x A n h b=>?_) (fun k t n h=>?_)
   ·obtain⟨z,E,q,y,j,l,B,w,rfl⟩:=b.eight;intro D;refine a8 1 (dQ (by rw[tP,if_pos c,h];rfl) (.mk .nil .nil (.ps (.cons b .nil))))
   ·refine a8 1 (cJ (by rw[tP,if_pos c,h];rfl))
  ·refine cI r e (r.tok e) [45] (b0 f) om 0 Z (fun d=>?_) (fun d=>?_)
   ·have p:=C.step f d;refine TH C s 9223372036854775808 (e+1) p (.inr Z) 0 Z (fun x A n h b=>?_) (fun k t n h=>?_)
    ·obtain⟨z,E,q,y,j,l,B,w,rfl⟩:=b.eight;refine a8 1 (dQ (by rw[tP,if_neg (by rw[c];decide),if_pos d,h]) b)
    ·refine a8 1 (cJ (by rw[tP,if_neg (by rw[c];decide),if_pos d,h]))
   ·refine o.call e om f 0 _ _ Z (fun x A n h b=>?_) (fun k t n h=>?_)
    ·obtain⟨z,E,q,y,j,l,B,w,rfl⟩:=b.eight;refine a8 1 (dQ (by rw[tP,if_neg (by rw[c];decide),if_neg (by rw[d];decide),h]) b)
    ·refine a8 1 (cJ (by rw[tP,if_neg (by rw[c];decide),if_neg (by rw[d];decide),h]))
def Dt(N:r.Wf)(a:cq)(e:Nat){kids:List Ex}{my:List cH}{p:Nat}(w:mA cR g r p)(z:p<r.ts.length)(m:jt kids my)(o:kids.length<=1)(l k:Nat)(n:l≠k)(x:nth H l=some (dp r p))(A:nth H k=some (kO 8 my)) 
  (B:∀F y f j,jP g r a e kids p=.ok F f->je F y->fW 0 j=true->u (.ret (.agg (y.map V.d))) ((H.set l (dp r f)).set k j)) (E:∀c i f j,jP g r a e kids p=.bad c i->fW 0 j=true->u (.eH (dt c i)) ((H.set l (dp r f)).set k j)):
  b4 C ca uV [.bp l 0,.agg (jx e [] .ci (.d .ci) (.d .ci)),kV k 8 my,cn a] H u:=by
 refine b4.two (dM:=[.bp 0 0,.agg (jx e [] .ci (.d .ci) (.d .ci)),kV 1 8 my,cn a]) (P:=fun I q d=>fW 0 d=true/\∃b,q=.box b/\Qg r (jP g r a e kids p) I b)
  ((J3 N a e w z m o).mono fun I G h=>by
   obtain⟨b,j,i,v,K,t,S⟩:=h;exact⟨_,j,i,v,K,t,t,b,Z,S⟩) l k n x A Z (gr 8 my) ?_ ?_ (fun I q d h=>?_)
 ·show(bd 2 (.bp 0 0)&&fu 2 [.agg (jx e [] .ci (.d .ci) (.d .ci)),kV 1 8 my,cn a])=true;rw[zi rfl rfl];rfl
 ·show _=gW _ (.bp 0 0)::hU _ [.agg (jx e [] .ci (.d .ci) (.d .ci)),kV 1 8 my,cn a];rw[<-vW (i':=k) (v':=cn a) rfl rfl];rfl
 ·obtain⟨s,b,rfl,h⟩:=h;unfold Qg at h;split at h
  ·rename_i L f i;obtain⟨rfl,y,D,rfl⟩:=h;exact B L y f d i D s
  ·rename_i c R i;obtain⟨f,rfl,rfl⟩:=h;exact E c R f d i s
def TJ{e:Type}(x:r.Wf){step:e->Nat->PR e}{lo:Nat}(p:∀h b a d,lo<=b->b<r.ts.length->step h b=.ok a d->b<d/\d<r.ts.length):∀(i:Nat) (h:e) (b:Nat) (a:e) (d:Nat),lo<=b->b<r.ts.length->ji step r G i h b=.ok a d->b<d/\d<r.ts.length:=by
 intro i;induction i with
 |zero=>intro h b a d _ _ c;cases c
 |succ i s=>
  intro h b a d l j c;rw[ji]at c;split at c
  ·cases c
  ·rename_i w q1 k;obtain⟨I,t⟩:=p h b w q1 l j k;split at c
   ·rename_i o;have:=x.step t o;cases c;exact⟨om,this⟩
   ·cases f:cu r [[44]] q1 with
    |bad B K=>rw[f]at c;cases c
    |ok D q2=>
     rw[f]at c;dsimp only at c;have q:=cL _ _ _ f;have n:=da x _ _ _ t f;simp only[agn,agv]at q;obtain⟨C,y⟩:=s w q2 a d om n c;exact⟨om,y⟩
def zj{c:Type}(k:r.Wf){step:c->Nat->PR c}{lo:Nat}(j:∀i p b a,lo<=p->p<r.ts.length->step i p=.ok b a->p<a/\a<r.ts.length){i b:c}{p a:Nat}(h:lo<=p)(d:p<r.ts.length)(e:gA step r G i p=.ok b a):p<a/\a<r.ts.length:=by
 rw[gA]at e;split at e
 ·rename_i f;have:=k.step d f;cases e;exact⟨om,this⟩
 ·exact TJ k j _ _ _ _ _ h d e
def On(l:r.Wf){lo:Nat}(e:∀p M a,lo<=p->p<r.ts.length->g p=.ok M a->p<a/\a<r.ts.length){s:cq}{p a:Nat}(k:lo<=p)(f:p<r.ts.length)(h:fj g r [] p=.ok M a∨fj g r s p=.ok M a):p<a/\a<r.ts.length:=by
 have c:∀s,fj g r s p=.ok M a->p<a/\a<r.ts.length:=by
  intro s h;rw[fj]at h;cases b:cu r [s] p with
  |bad q t=>rw[b]at h;cases h
  |ok n q2=>
   rw[b]at h;have d:=cL _ _ _ b;have i:=da l _ _ _ f b;simp only[agn,agv]at d;obtain⟨o,j⟩:=e q2 M a om i h;exact⟨om,j⟩
 rcases h with h|h
 ·exact c _ h
 ·exact c _ h
variable{X:List eo}
def Ar(w:r.Wf){p b:Nat}{s:cq}(h2:p<r.ts.length)(h:eJ r X p=.ok s b):p<b/\b<r.ts.length:=by
 rw[eJ]at h;split at h
 ·cases h
 ·rename_i a;have a:(r.tok p).kind=1:=by simpa using a
  split at h
  ·cases h
  ·exact XY
def fS(w:r.Wf){p b:Nat}{s:cq}(h2:p<r.ts.length)(h:dh r p=.ok s b):p<b/\b<r.ts.length:=by
 rw[dh]at h;split at h
 ·cases h
 ·rename_i a;have a:(r.tok p).kind=1:=by simpa using a
  exact XY
def As(i:r.Wf){lo:Nat}(f:∀p M a,lo<=p->p<r.ts.length->g p=.ok M a->p<a/\a<r.ts.length){kids:List Ex}{p a:Nat}(d:lo<=p)(b:p<r.ts.length)(c:jP g r G v kids p=.ok M a):p<a/\a<r.ts.length:=by
 obtain⟨t,h,_⟩:=dv c;refine zj i (lo:=lo) (fun n p j a d b c=>?_) d b h;rw[lP]at c;split at c
 ·cases c
 ·rename_i s q1 e;obtain⟨q,k⟩:=Ar i b e;obtain⟨o,h,_⟩:=dv c;obtain⟨l,d2⟩:=On i f (s:=[58]) om k (.inr h);exact⟨om,d2⟩
def TK(l:r.Wf){lo:Nat}(p:∀b h c,lo<=b->b<r.ts.length->g b=.ok h c->b<c/\c<r.ts.length):∀(k:Nat) (h:Ex) (b:Nat) (i:Ex) (c:Nat),lo<=b->b<r.ts.length->p8 g r k h b=.ok i c->b<=c/\c<r.ts.length:=by
 intro k;induction k with
 |zero=>intro h b i c _ _ a;cases a
 |succ k j=>
  intro h b i c t e a;rw[p8]at a;split at a
  ·rename_i d;split at a
   ·cases a
   ·rename_i s q1 f;obtain⟨q,o⟩:=fS l (l.step e d) f;obtain⟨w,n⟩:=j _ q1 i c om o a;exact⟨om,n⟩
  ·split at a
   ·rename_i d;split at a
    ·cases a
    ·rename_i x q1 f;obtain⟨q,o⟩:=As l p om (l.step e d) f;obtain⟨w,n⟩:=j _ q1 i c om o a;exact⟨om,n⟩
   ·cases a;exact⟨agk _,e⟩
def adY:Nat->Bool:=fun a=>ago a 13
def aa3(I:r.Wf){lo:Nat}(j:mA nw (gd m g r) r lo)(k:mA cR g r (lo+1)):mA r5 (od m g r) r lo:=by
 have M:=I.len;refine mA.of (fun o N b p H F=>?_) (fun o p P=>?_)
 ·rw[od]at F;split at F
  ·cases F
  ·rename_i n q1 X;obtain⟨e,T⟩:=j.lt o n q1 p H X;obtain⟨ae,E⟩:=TK I k.lt _ n q1 N b om T F;exact⟨om,E⟩
 ·refine cv adY (fun _=>Z) ?_;refine j.call o p P 0 _ _ Z (fun n E b G d=>?_) (fun u J b G=>?_)
  ·obtain⟨x,f⟩:=j.lt o n b p P G;obtain⟨L,W,O,C,i,l,D,y,rfl⟩:=d.eight;refine cD (dB:=[(0,.bp 0 0),(2,.bp 1 0),(3,.bp 2 0)]) ?_;refine cd.iter (fun _:Nat×Ex×cH=>[(0,.bp 0 0),(2,.bp 1 0),(3,.bp 2 0)]) (fun e=>[dp r e.1,.box jz,.box (e.2.2.map V.d)]) (fun e=>r.ts.length-e.1)
    (fun e=>o<e.1/\e.1<r.ts.length/\je e.2.1 e.2.2/\∃h,r.ts.length-e.1<h/\od m g r o=p8 g r h e.2.1 e.1) ?_ (b,n,_) ⟨x,f,d,r.ts.length,by show r.ts.length-b<r.ts.length;omega,by rw[od,G]⟩
   rintro⟨b,n,E⟩ ⟨S,K,A,h,R,z⟩;have x:o<b:=S;have f:b<r.ts.length:=K;have d:je n E:=A;have ad:r.ts.length-b<h:=R;have a:od m g r o=p8 g r h n b:=z;clear S K A R z;obtain⟨L,W,O,C,i,l,D,y,rfl⟩:=d.eight;obtain⟨h,rfl⟩:∃U,h=U+1:=⟨h-1,om⟩;rw[p8]at a;refine cI r b (r.tok b) [46] (b0 f) om 0 Z (fun s=>?_) (fun s=>?_)
   ·have c:=I.step f s;rw[if_pos s]at a;intro ab;repeat refine ch ?_
    refine kH r (b+1) _ (b0 c) om 0 ?_ (fun B=>?_) (fun B=>?_)
    ·exact Z
    ·have v:b+1+1<r.ts.length:=I.go (b+1) _ (b0 c) om;simp only[dh,B,ne_eq,not_true,if_false]at a;repeat refine ch ?_
     refine⟨(b+1+1,.mk 6 [] (r.tok (b+1)).text [] 0 [] [] [n],_),⟨by show o<b+1+1;omega,v,.mk .nil .nil (.ps (.cons d .nil)),h,by show r.ts.length-(b+1+1)<h;omega,a⟩,by show r.ts.length-(b+1+1)<r.ts.length-b;omega,.eD 3,Z,Z⟩
    ·refine a8 1 (cJ (by rw[a];simp only[dh,B,ne_eq,not_false_eq_true,if_true]))
   ·rw[if_neg (by rw[s];decide)]at a;refine cI r b (r.tok b) [40] (b0 f) om 0 Z (fun t=>?_) (fun t=>?_)
    ·have c:=I.step f t;rw[if_pos t]at a;refine Dt I [41] 9 (kids:=[n]) (my:=[[.int .i64 (agm L),.str W,.str O,.str C,.int .i64 i,l,D,y]]) (k.up om) c (.cons d .nil) (agk _) 0 3 dc Z Z (fun N d2 q2 ac q w Q=>?_) (fun u J q2 ac q Q=>?_)
     ·obtain⟨e,T⟩:=As I k.lt om c q;obtain⟨L,W,O,C,i,l,D,y,rfl⟩:=w.eight;rw[q]at a;refine⟨(q2,N,_),⟨by show o<q2;omega,T,w,h,by show r.ts.length-q2<h;omega,a⟩,by show r.ts.length-q2<r.ts.length-b;omega,.eD 3,Z,Z⟩
     ·rw[q]at a;refine a8 1 (cJ a)
    ·rw[if_neg (by rw[t];decide)]at a;refine a8 1 (dQ a d)
  ·refine a8 1 (cJ (by rw[od,G]))
def cU.gone{l:Nat}{d:cO}{a:VS}{k:cO->VS->Prop}(n:cU l d (a++[.gone]) k):cU l d a k:=by
 refine⟨fun b f j h c=>?_⟩;have e:CW b (a++[cN.gone]).length d:=by
  cases d with
  |ret i=>exact e9.mono (Fz.le_refl _) ZI (show e9 b a.length i from c)
  |eH i=>exact e9.mono (Fz.le_refl _) ZI (show e9 b a.length i from c)
 exact n.go b f j h.gone e
def nC(a:List Nat):List V:=a.map fun b=>.bp b 0
variable{U:List Nat}
def J5{n:Nat}(f:∀a∈U,a<n)(b:∀a,a<n->A a=a):hU A (nC U)=nC U:=by
 induction U with
 |nil=>rfl
 |cons d U c=>
  show V.bp (A d) 0::hU A (nC U)=_;rw[b d (f d sm),c fun a e=>f a (by simp[e])];rfl
def VD{n:Nat}(e:∀b∈U,b<n):fu n (nC U)=true:=by
 induction U with
 |nil=>rfl
 |cons c U a=>
  show(agL c n&&fu n (nC U))=true;rw[a fun b d=>e b (by simp[d]),show agL c n=true by rw[Nat.blt_eq];exact e c sm];rfl
def rr(n:Nat)(c a:VS):Prop:=∃b,A4 n b 0=true/\b.Nodup/\n<=a.length/\uH (jT b c.length) a.length c b a
variable{Y:FuncId}
def rr.code{n:Nat}{b fU:VS}(t:rr n b fU)(hcs:∀i∈U,i<n)(h0:0<n){h:uw}{c:Code}{f:Tm}{a:cq}{s:Bu->Tm->List fq->lJ->VS->Prop}(j:h.fl=n) 
  (l:mP [(0,.bp 0 0),(1,cn G),(2,cn a),(3,.fn Y [] (nC U))] f) (p:cd C ca h c [(0,.bp 0 0),(1,cn G),(2,cn a),(3,.fn Y [] (nC U))] [] .none fU s):cd C ca h c f [] .none b s:=by
 obtain⟨d,k,o,h3,q⟩:=t;have e:∀i,i<n->jT d b.length i=i:=fun i hi=>by
  have:=rW k hi;rw[kM this];omega
 refine cd.pick n d (dB:=[(0,.bp 0 0),(1,cn G),(2,cn a),(3,.fn Y [] (nC U))]) ?_ ?_ (by rw[j,agB];exact agk n) k Z Z o q p
 ·show mP [(0,V.bp (jT d b.length 0) 0),(1,cn G),(2,cn a),(3,V.fn Y [] (hU (jT d b.length) (nC U)))] f;rw[e 0 h0,J5 hcs e];exact l
 ·show(agL 0 fU.length&&(true&&(true&&((true&&fu fU.length (nC U))&&true))))=true;exact aad
def adZ:Nat->Bool:=fun a=>ago a 18||ago a 1000002
def FN{γ w:Type}(U:r.Wf)(b:cq)(step:γ->Nat->PR γ)(I:γ->w->Nat->Prop)(P:w->VS)(j:VS)(n:Nat)(q:FuncId)(O:(C.ff.get q).isSome=true)(l:List Nat){g0:γ}{a0:w}{p:Nat}(S:p<r.ts.length)(V:I g0 a0 p)(g:∀k c d,I k c d->I k c (d+1))(z:j++[.gone]=P a0)(ac:j.length+1=n)(F:∀c,n<=(P c).length+1)(M:∀aj∈l,aj<n) 
  (ab:∀k c d,I k c d->p<=d->d<r.ts.length->∀m:cO->VS->Prop,
   (∀o i a f,step k d=.ok o a->I o i a->d<a->a<r.ts.length->rr n (dp r a::f) (dp r a::P i)->m (.ret (.dS [])) (dp r a::f))->
   (∀h y a f,step k d=.bad h y->n<=f.length+1->m (.eH (dt h y)) (dp r a::f))->b4 C ca q (nC l) (dp r d::P c) m) (D:∀k c d,gA step r b g0 p=.ok k d->I k c d->p<d->d<r.ts.length->u (.ret (.dS [])) (dp r d::P c))
  (B:∀h y d f,gA step r b g0 p=.bad h y->u (.eH (dt h y)) (dp r d::f)):
  b4 C ca EL [.bp 0 0,cn [44],cn b,.fn q [] (nC l)] (dp r p::j) u:=by
 have Y:=U.len;refine cv adZ (fun _=>Z) ?_;refine cI r p (r.tok p) b (b0 S) om 0 Z (fun T=>?_) (fun T=>?_)
 ·refine cU.gone ?_;refine cU.now (by rw[agB];simp) ?_;show u (.ret (.dS [])) (dp r (p+1)::(j++[.gone]));rw[z];exact D g0 a0 (p+1) (by rw[gA,if_pos T]) (g _ _ _ V) (Nat.lt_succ_self p) (U.step S T)
 ·refine cD (dB:=[(0,.bp 0 0),(1,cn [44]),(2,cn b),(3,.fn q [] (nC l))]) ?_;refine cd.gone ?_;show cd _ _ _ _ _ _ _ (dp r p::(j++[.gone])) _;rw[z];refine cd.iter (fun _:Nat×γ×w=>[(0,.bp 0 0),(1,cn [44]),(2,cn b),(3,.fn q [] (nC l))]) (fun c=>dp r c.1::P c.2.2) (fun c=>r.ts.length-c.1)
   (fun c=>p<=c.1/\c.1<r.ts.length/\I c.2.1 c.2.2 c.1/\∃t,r.ts.length-c.1<=t/\gA step r b g0 p=ji step r b t c.2.1 c.1) ?_ (p,g0,a0) ⟨agk _,S,V,_,by show r.ts.length-p<=r.ts.length;omega,by rw[gA,if_neg (by rw[T];decide)]⟩
  rintro⟨d,k,c⟩ ⟨J,E,A,t,G,H⟩;have v:p<=d:=J;have X:d<r.ts.length:=E;have N:I k c d:=A;have ai:r.ts.length-d<=t:=G;have e:gA step r b g0 p=ji step r b t k d:=H;clear J E A G H V;obtain⟨t,rfl⟩:∃aa,t=aa+1:=⟨t-1,om⟩;rw[ji]at e;conv=>whnf
  rw[O];refine ab k c d N v X _ (fun o i a f y K ad s L=>?_) (fun h ah a f y af=>?_)
  ·rw[y]at e;dsimp only at e;refine L.code M om ac ⟨Z,Z,Z,Z,tv⟩ ?_;refine xC ?_;refine cI r a (r.tok a) b (b0 s) om 0 Z (fun x=>?_) (fun x=>?_)
   ·rw[if_pos x]at e;refine cU.now (by rw[agB];show j.length+1<=(P i).length+1;have:=F i;omega) ?_;exact D o i (a+1) e (g _ _ _ K) om (U.step s x)
   ·rw[if_neg (by rw[x];decide)]at e;intro W;refine gZ U [44] s W _ 0 Z (fun R Q=>?_) (fun R ae=>?_)
    ·rw[vX R]at e;refine⟨(a+1,o,i),⟨by show p<=a+1;omega,Q,g _ _ _ K,t,by show r.ts.length-(a+1)<=t;omega,e⟩,by show r.ts.length-(a+1)<r.ts.length-d;omega,.eS,Z,Z⟩
    ·refine cU.now (by rw[agB];show j.length+1<=(P i).length+1;have:=F i;omega) ?_;exact B _ _ _ _ (by rw[e];simp only[cu,R,if_false,agj])
  ·rw[y]at e;refine cU.now (by rw[agB];show j.length+1<=f.length+1;omega) ?_;exact B _ _ _ _ e
def TL(es:Nat)(c:cH)(b:List cH)(a:cH):some (cN.row es (agE (b.length+1) (agG 0 (agw (fun a=>agw V.d a) (c::b)))++[a.map V.d]))=some (.row es (((c::b)++[a]).map fun a=>a.map V.d)):=by
 rw[List.drop_zero,agr sm];simp
def WB(a:FE)(b:List FE):some (kO 9 (J2 (a::b)))=some (.row 9 (dg true (a::b))):=by
 simp[kO,J2,dg,zb,Function.comp_def]
def BN{a:Nat}(b:Q=.bad O a):cU 1 (.eH (dt O a)) (dp r v::H) (K3 r Q):=
 cU.drop 1 rfl (by show(fW 1 (dp r v)&&mJ 1 H 0)=true;rw[mJ];rfl) rfl (cU.now rfl (cJ b))
variable{L:List lK}
def B6{n:cq}{types:List Ty}{kids:List Ex}{els:List cH}(b a:Nat)(j:nth H b=some (.row 8 (els.map fun k=>k.map V.d)))(c:a=els.length)(f:jt kids els)(e:fA types z)(h:eR L E)(i:Q=.ok (.mk O [] n [] 0 types L kids) v):
  cU 1 (.ret (.agg (jx O n z (.d E) (.ms (b+1) 8 0 a a)))) (dp r v::H) (K3 r Q):=by
 refine cU.freeze (b+1) (es:=8) (l:=els) j (gk els) (by repeat' (first|exact tv|exact fun _=>⟨rfl,by simp[c]⟩|refine agO ?_ ?_)) (fun d=>?_);have o:wq (b+1) d els (.ret (.agg (jx O n z (.d E) (.ms (b+1) 8 0 a a))))=.ret (.agg (([.int .i64 (agm O),.str [],.str n,.str [],.int .i64 (agm 0),z,E,.ps d 0 8 a els]:cH).map V.d)):=by
  show cO.ret (.agg (jx O n z (.d E) (o5 (b+1) d els (.ms (b+1) 8 0 a a))))=_;rw[o5,kz];show cO.ret (.agg (jx O n z (.d E) (.d (.ps d (0*8) 8 a ((els.drop 0).take a)))))=_;rw[eT _ _ c];rfl
 rw[o];refine cU.drop 1 Z (by show(fW 1 (dp r v)&&mJ 1 (H.set b .gone) 0)=true;rw[mJ];rfl) (qW 1 _) (cU.now Z ?_);exact dQ i (.mk e h (.ps f))
def ad0:Nat->Bool:=fun a=>ago a 7
def p1I(l:List Ex)(a:List cH)(b:Nat):Prop:=jt l a/\a.length<=b
def p1T(tok:cH)(b:D)(a:List cH):VS:=[.box [.bp 0 0],.box jz,.box (tok.map V.d),.box (jx 14 [] b (.d .ci) (kV 5 8 a)),kO 8 a]
def RX(a:List cH):a.length+1<a.length+1+1:=Nat.lt_succ_self _
def It(a:cH)(b:List cH):nth (agE (b.length+1) (agG 0 (agw (fun c=>agw V.d c) (a::b)))++[jz]) (0+(b.length+1))=some jz:=by
 rw[ck,List.getElem?_append_right sm];simp
def TM(b:cH)(c:List cH)(a:cH):(agE (c.length+1) (agG 0 (agw (fun a=>agw V.d a) (b::c)))++[jz]).set (0+(c.length+1)) (a.map V.d)=agw (fun a=>agw V.d a) (b::(c++[a])):=by
 exact aeH
def J6(tok:cH):some (cN.box (tok.map V.d))=some (hV A (.box (tok.map V.d))):=by rw[hV,Tu]
def Oo(tok:cH):fW v (.box (tok.map V.d))=true:=qW v tok
def aa4(b:D)(c:cH)(a:List cH)(d:cH)(e:A O=v):some (cN.box (jx 14 [] b (.d .ci) (.ms v 8 0 (a.length+1+1) (a.length+1+1))))=some (hV A (.box (jx 14 [] b (.d .ci) (kV O 8 ((c::a)++[d]))))):=by
 subst e;exact zd Z (by rw[nB];exact li _ 8 c a d)
def WC(b:cH)(a:List cH)(c:cH):some (cN.row 8 ((agE (a.length+1) (agG 0 (agw (fun c=>agw V.d c) (b::a)))++[jz]).set (0+(a.length+1)) (c.map V.d)))=some (hV A (kO 8 ((b::a)++[c]))):=by
 rw[TM,Dk];rfl
def WD(N:r.Wf){lo:Nat}(f:mA cR g r lo)(tok:cH)(s:D)(l:List Ex)(q:List cH)(j:Nat)(H:p1I l q j)(i:lo<=j)(x:j<r.ts.length)(K:cO->VS->Prop) 
  (P:∀m V b n,oc g l j=.ok m b->p1I m V b->j<b->b<r.ts.length->rr 5 (dp r b::n) (dp r b::p1T tok s V)->K (.ret (.dS [])) (dp r b::n))
  (u:∀e L b n,oc g l j=.bad e L->5<=n.length+1->K (.eH (dt e L)) (dp r b::n)):b4 C ca pY (nC [4,1]) (dp r j::p1T tok s q) K:=by
 have G:=N.len;obtain⟨S,R⟩:=H;refine b4.body ad0 (fun _=>Z) ?_;rcases q with _|⟨x0,xr⟩
 ·intro F;repeat refine ch ?_
  refine f.call j i x 0 _ _ ?_ (fun E M q1 a k=>?_) (fun e A q1 a=>?_)
  ·exact Z
  rotate_left
  ·exact u _ _ _ _ (by simp only[oc,a,PR.map]) (by show 5<=6;omega)
  obtain⟨c,t⟩:=f.lt _ _ _ i x a;obtain⟨y,z,v,B,d,h,I,w,rfl⟩:=k.eight;have o:oc g l j=.ok (l++[E]) q1:=by simp only[oc,a,PR.map]
  have p:=S.snoc k;repeat first
   |refine bZ rfl ?_
   |refine cf ?_
   |refine cc jz rfl ?_
  refine P _ _ _ _ o ⟨p,by show 1<=q1;omega⟩ c t ⟨[0,1,2,3,4,6],Z,dc,by show 5<=6;omega,Z,Z,Z,Z,Z,Z,J6 tok,Oo tok,Z,ze Z Z,lj _ 8 [.int .i64 (agm y),.str z,.str v,.str B,.int .i64 d,h,I,w],gH _ _ _,tv⟩
 ·intro F;repeat refine ch ?_
  refine f.call j i x 0 _ _ ?_ (fun E M q1 a k=>?_) (fun e A q1 a=>?_)
  ·exact Z
  rotate_left
  ·exact u _ _ _ _ (by simp only[oc,a,PR.map]) (by show 5<=6;omega)
  obtain⟨c,t⟩:=f.lt _ _ _ i x a;obtain⟨y,z,v,B,d,h,I,w,rfl⟩:=k.eight;have o:oc g l j=.ok (l++[E]) q1:=by simp only[oc,a,PR.map]
  have p:=S.snoc k;have J:xr.length+1<=j:=R;refine a6 ?_ ?_
  ·repeat' (first|exact tv|exact rfl|exact agk _|exact(rB om (agk _) (agl rfl)).1|exact(rB om (agk _) (agl rfl)).2|(simp only[agq,agn];omega)|refine bZ rfl ?_|refine agO ?_ ?_)
  refine a6 Z (a6 ⟨Z,Z,by simp,agk _,rB om (agk _) (agl Z)⟩ ?_);refine a7 Z (a7 (fG (xr.length+1)) ?_);refine a6 ?_ ?_
  ·exact YW
  refine bZ Z ?_;refine a6 (RX xr) ?_;refine a6 ?_ ?_
  ·exact YW
  refine cc jz (It x0 xr) ?_;refine P _ _ _ _ o ⟨p,by simp only[agp,agn,agv];omega⟩ c t ⟨[0,1,2,3,4,6],Z,dc,by show 5<=6;omega,Z,Z,Z,Z,Z,Z,J6 tok,Oo tok,aa4 s x0 xr [.int .i64 (agm y),.str z,.str v,.str B,.int .i64 d,h,I,w] Z,ze Z (kZ 8 _ Z),WC x0 xr [.int .i64 (agm y),.str z,.str v,.str B,.int .i64 d,h,I,w],gH _ _ _,tv⟩
abbrev ZR(b:Nat)(a:cH):D:=.ps b 0 5 1 [a]
def ad1:Nat->Bool:=fun a=>ago a 49||ago a 55||ago a 56||ago a 59||ago a 67||ago a 70||ago a 85||ago a 87||ago a 90
def MC(l:r.Wf)(a:cq){p:Nat}(i:ef m r p)(f:p<r.ts.length)(c:Nat)(b:nth H c=some (dp r p))(k1:∀j d q,iH m r a p=.ok j q->je j d->u (.ret (.agg (d.map V.d))) (H.set c (dp r q))) 
  (k2:∀off e q,iH m r a p=.bad off e->u (.eH (dt off e)) (H.set c (dp r q))):b4 C ca uW [.bp c 0,cn a] H u:=by
 refine b4.one (dM:=[.bp 0 0,cn a]) (P:=Qg r (iH m r a p)) (J4 l a i f) c b Z Z Z (fun n k h=>?_);unfold Qg at h;exact OV
def B7{p a:Nat}(b:(r.tok p).kind≠a):decide (agm (r.tok p).kind=agm a)=false:=decide_eq_false fun c=>b (by simp only[agx]at c;omega)
def zk{p a:Nat}(b:(r.tok p).kind=a):decide (agm (r.tok p).kind=agm a)=true:=by rw[b];exact decide_eq_true rfl
def DW(d:Nat->PR Ty)(a:Nat->PR Ex)(e:Rd)(p:Nat):PR Ex:=match d p with
 |.bad b c=>.bad b c
 |.ok h f=>match cu e [[124]] f with
  |.bad b c=>.bad b c
  |.ok _ q1=>(gA (oc a) e [93] [] q1).map fun i=>.mk 14 [] [] [] 0 [h] [] i
def MD(D:r.Wf)(X:r.Ng){p:Nat}(V:ef m r p)(x:mA cR g r (p+1))(k:p<r.ts.length):
  b4 C ca nw [.bp 0 0] [dp r p] (K3 r (gd m g r p)):=by
 have ao:=D.len;refine cv ad1 (fun _=>Z) ?_;refine eF r p _ (b0 k) 0 Z ?_;by_cases a:(r.tok p).kind=3
 ·refine cg (zk a) ?_;refine TH D X 9223372036854775807 p k (.inl Z) 0 Z (fun aA av s l o=>?_) (fun q K s l=>?_)
  ·obtain⟨ai,ak,al,E,P,S,F,G,rfl⟩:=o.eight;refine a8 1 (dQ (by rw[gd,if_pos a,l]) o)
  ·refine a8 1 (cJ (by rw[gd,if_pos a,l]))
 refine a7 (B7 a) ?_;by_cases c:(r.tok p).kind=4
 ·refine cg (zk c) ?_;refine dK r p _ (b0 k) om 0 Z ?_;have z:eu (r.tok p) p=p+1:=by rw[eu,if_neg om]
  rw[z];refine a8 1 (dQ (by rw[gd,if_neg a,if_pos c]) (.mk .nil .nil .nil))
 refine a7 (B7 c) ?_;by_cases b:(r.tok p).kind=1
 ·refine cg (zk b) ?_;have e:p+1<r.ts.length:=D.go p _ (b0 k) om;repeat refine ch ?_
  refine dK r p _ (b0 k) om 0 Z ?_;have z:eu (r.tok p) p=p+1:=by rw[eu,if_neg om]
  rw[z];repeat refine ch ?_
  refine MC D (r.tok p).text ⟨fun T am s aj=>V.lt T am s om,fun T aj=>V.call T om⟩ e 0 Z (fun aA av s l o=>?_) (fun q K s l=>?_)
  ·obtain⟨ai,ak,al,E,P,S,F,G,rfl⟩:=o.eight;repeat refine ch ?_
   refine a8 1 (dQ (by rw[gd,if_neg a,if_neg c,if_pos b,l]) o)
  ·refine a8 1 (cJ (by rw[gd,if_neg a,if_neg c,if_pos b,l]))
 refine a7 (B7 b) ?_;refine cI r p _ [116,114,117,101] (b0 k) om 0 Z (fun f=>?_) (fun f=>?_)
 ·refine a8 1 (dQ (by simp only[gd,a,c,b,f,if_false,if_true]) (.mk .nil .nil .nil))
 refine cI r p _ [102,97,108,115,101] (b0 k) om 0 Z (fun h=>?_) (fun h=>?_)
 ·refine a8 1 (dQ (by simp only[gd,a,c,b,f,h,if_false,if_true,agj]) (.mk .nil .nil .nil))
 refine cI r p _ [123] (b0 k) om 0 Z (fun i=>?_) (fun i=>?_)
 ·have e:=D.step k i;refine b4.gone ?_;refine Dt D [125] 5 (kids:=[]) (my:=[]) x e .nil (agt _) 0 4 dc Z Z (fun aM d2 q2 aD B L ap=>?_) (fun q K q2 aD B ap=>?_)
  ·obtain⟨ai,ak,al,E,P,S,F,G,rfl⟩:=L.eight;refine a8 1 (dQ (by simp only[gd,a,c,b,f,h,i,if_false,if_true,agj,B]) L)
  ·refine a8 1 (cJ (by simp only[gd,a,c,b,f,h,i,if_false,if_true,agj,B]))
 refine cI r p _ [60] (b0 k) om 0 Z (fun j=>?_) (fun j=>?_)
 ·have e:=D.step k j;refine kH r (p+1) _ (b0 e) om 0 Z (fun u=>?_) (fun u=>?_)
  ·have ae:p+1+1<r.ts.length:=D.go (p+1) _ (b0 e) om;intro ac;refine gZ D [58] ae ac _ 0 Z (fun d J=>?_) (fun d s=>?_)
   ·repeat refine ch ?_
    refine x.call (p+1+1+1) om J 0 _ _ Z (fun aA av s l o=>?_) (fun q K s l=>?_)
    ·obtain⟨ag,I⟩:=x.lt _ _ _ om J l;obtain⟨ai,ak,al,E,P,S,F,G,rfl⟩:=o.eight;intro aF;repeat refine cf ?_
     intro v;repeat refine cf ?_
     intro an;refine gZ D [62] I an _ 0 Z (fun n ad=>?_) (fun n s=>?_)
     ·refine a8 1 (dQ (by simp only[gd,dh,fj,cu,PR.map,a,c,b,f,h,i,j,u,d,n,if_false,if_true,ne_eq,not_true,agj,l]) (.mk .nil .nil (.ps (.cons o .nil))))
     ·refine a8 1 (cJ (by simp only[gd,dh,fj,cu,PR.map,a,c,b,f,h,i,j,u,d,n,if_false,if_true,ne_eq,not_true,agj,l]))
    ·refine a8 1 (cJ (by simp only[gd,dh,fj,cu,PR.map,a,c,b,f,h,i,j,u,d,if_false,if_true,ne_eq,not_true,agj,l]))
   ·refine a8 1 (cJ (by simp only[gd,dh,fj,cu,PR.map,a,c,b,f,h,i,j,u,d,if_false,if_true,ne_eq,not_true,agj]))
  ·refine a8 1 (cJ (by simp only[gd,dh,a,c,b,f,h,i,j,u,if_false,if_true,ne_eq,not_false_eq_true,agj]))
 refine cI r p _ [91] (b0 k) om 0 Z (fun t=>?_) (fun t=>?_)
 ·have e:=D.step k t;have A:gd m g r p=DW m g r (p+1):=by
   simp only[gd,a,c,b,f,h,i,j,t,if_false,if_true,agj];rfl
  rw[A];clear A;refine V.call (p+1) om e 0 _ _ Z (fun am ay af l w=>?_) (fun q K s l=>?_)
  ·obtain⟨aC,N⟩:=V.lt _ _ _ om e l;obtain⟨M,O,tn,Q,U,rfl⟩:=w.cZ;intro ac;intro v;refine gZ D [124] N v _ 0 Z (fun d R=>?_) (fun d s=>?_)
   ·have A:DW m g r (p+1)=(gA (oc g) r [93] [] (af+1)).map fun aJ=>.mk 14 [] [] [] 0 [am] [] aJ:=by
     simp only[DW,l,cu,d,if_true]
    rw[A];clear A;have aa:mA cR g r (af+1):=x.up om;refine FN D [93] (oc g) p1I (p1T [.int .i64 (agm (r.tok p).kind),.str (r.tok p).text,.int .i64 (agm (r.tok p).off)] (ZR ac [.int .i64 (agm M),.str O,.str tn,Q,U])) (g0:=[]) (a0:=[]) [.box [.bp 0 0],.box jz,.box [b5 (r.tok p).kind,cn (r.tok p).text,b5 (r.tok p).off],.box (jx 14 [] (ZR ac [.int .i64 (agm M),.str O,.str tn,Q,U]) (.d .ci) (.d .ci))] 5 pY Z [4,1] R ⟨.nil,agt _⟩ (fun au Y s aj=>⟨aj.1,Nat.le_succ_of_le aj.2⟩) Z Z (fun Y=>by show 5<=6;omega) dc (fun au Y s d n aq ax b ar=>WD D aa _ _ au Y s d n aq ax b ar) (fun au Y s H aB _ ag=>?_) (fun q K s aK H=>?_)
    ·obtain⟨ah,aH⟩:=aB;rcases Y with _|⟨aE,aw⟩
     ·cases ah;refine a8 1 (dQ (by rw[H];rfl) (.mk (.ps (.cons w .nil) sm) .nil .nil))
     ·exact B6 4 (aw.length+1) Z Z ah (.ps (.cons w .nil) sm) .nil (by rw[H];rfl)
    ·exact BN (by rw[H];rfl)
   ·refine a8 1 (cJ (by simp only[DW,l,cu,d,if_false,agj]))
  ·refine a8 1 (cJ (by simp only[DW,l]))
 refine cI r p _ [40] (b0 k) om 0 Z (fun y=>?_) (fun y=>?_)
 ·have e:=D.step k y;refine x.call (p+1) om e 0 _ _ Z (fun aA av s l o=>?_) (fun q K s l=>?_)
  ·obtain⟨ag,I⟩:=x.lt _ _ _ om e l;obtain⟨ai,ak,al,E,P,S,F,G,rfl⟩:=o.eight;refine cI r s _ [58] (b0 I) om 0 Z (fun d=>?_) (fun d=>?_)
   ·have R:=D.step I d;intro aG;repeat refine ch ?_
    refine V.call (s+1) om R 0 _ _ Z (fun am ay q2 B w=>?_) (fun q K q2 B=>?_)
    ·obtain⟨ad,W⟩:=V.lt _ _ _ om R B;obtain⟨M,O,tn,Q,U,rfl⟩:=w.cZ;intro ac;repeat refine ch ?_
     intro v;refine gZ D [41] W v _ 0 Z (fun n ab=>?_) (fun n s=>?_)
     ·refine a8 1 (dQ (by simp only[gd,cu,PR.map,a,c,b,f,h,i,j,t,y,d,n,if_false,if_true,agj,l,B]) (.mk (.ps (.cons w .nil) sm) .nil (.ps (.cons o .nil))))
     ·refine a8 1 (cJ (by simp only[gd,cu,PR.map,a,c,b,f,h,i,j,t,y,d,n,if_false,if_true,agj,l,B]))
    ·refine a8 1 (cJ (by simp only[gd,cu,PR.map,a,c,b,f,h,i,j,t,y,d,if_false,if_true,agj,l,B]))
   ·intro v;refine gZ D [41] I v _ 0 Z (fun n ab=>?_) (fun n s=>?_)
    ·refine a8 1 (dQ (by simp only[gd,cu,PR.map,a,c,b,f,h,i,j,t,y,d,n,if_false,if_true,agj,l]) o)
    ·refine a8 1 (cJ (by simp only[gd,cu,PR.map,a,c,b,f,h,i,j,t,y,d,n,if_false,if_true,agj,l]))
  ·refine a8 1 (cJ (by simp only[gd,a,c,b,f,h,i,j,t,y,if_false,if_true,agj,l]))
 refine fK _ (r.tok p).off 3 ?_;refine a8 1 (cJ (by simp only[gd,a,c,b,f,h,i,j,t,y,if_false,agj]))
abbrev Oq(b:cq)(c:Nat)(e a:cq)(d f:D)(o:Bool)(h:D):FE:=⟨b,c,e,a,d,f,o,[],h⟩
def ad2:Nat->Bool:=fun a=>ago a 8||ago a 14||ago a 23
def ad3:Nat->Bool:=fun a=>ago a 10||ago a 24||ago a 25||ago a 29
def ME(i:Nat)(n:cq)(d:D){l:List eo}{xs:List FE}(w:kI l xs)(p:(xs.map FE.n).Nodup)(S:∀j∈l,j.val.length<=1)(c:Nat)(R:c=xs.length)(K:c<4294967295)(f h:Nat)(k:f≠h)(q:nth H f=some (.row 9 (dg true xs)))(x:nth H h=some .gone) 
  (y:∀j b a,fW 0 j=true->eR ((cG eo.n l).map eo.FH) b->jt ((cG eo.n l).flatMap eo.val) a->a.length<=c+1->u (.ret (.agg (jx i n d (.d b) (kV H.length 8 a)))) (((H.set f j).set h .gone)++[kO 8 a])):
  b4 C ca jL [.agg (jx i n d (.d .ci) (.d .ci)),.d .ci,.ms f 9 0 c c] H u:=by
 refine(My i n d w p S c R K).frame [f,h] Z (by simp[k]) (fun V s e=>?_) Z Z (fun g B e _=>?_)
 ·match V,e with
  |0,e=>
   obtain rfl:f=s:=by simpa using e
   exact⟨_,Z,by rw[<-ck,q];exact r7 _ _,jv _ _ _⟩
  |1,e=>
   obtain rfl:h=s:=by simpa using e
   exact⟨_,Z,by rw[<-ck,x];rfl,Z⟩
  |V+2,e=>simp at e
 ·obtain⟨j,b,a,rfl,o,t,P,I,rfl⟩:=e;have m:nZ (jT [f,h] H.length) (.ret (.agg (jx i n d (.d b) (kV 2 8 a))))=.ret (.agg (jx i n d (.d b) (kV H.length 8 a))):=by
   show cO.ret (.agg (jx i n d (.d b) (gW _ (kV 2 8 a))))=_;rw[nB];rfl
  rw[m];simp only[agz,agA,fh _ _ o,Dk,merge];exact y j b a o t P I
def f1I(l:List eo)(xs:List FE)(b:Nat):Prop:=kI l xs/\(xs.map FE.n).Nodup/\(∀a∈l,a.val.length<=1)/\xs.length<=b
def f1T(xs:List FE):VS:=[.box [.bp 0 0],.box jz,.box [kV 6 9 (J2 xs)],pg (xs.map FE.n),.box [.map 4],kO 9 (J2 xs)]
def acS{π:Nat->Nat}(xs:List FE)(a:FE):some (pg (xs.map FE.n++[a.n]))=some (hV π (pg ((xs++[a]).map FE.n))):=by
 exact X5
def WE(af:r.Wf){lo:Nat}(aa:ef m r lo)(H:mA cR g r lo)(l:List eo)(xs:List FE)(b:Nat)(ak:f1I l xs b)(an:lo<=b)(ac:b<r.ts.length)(T:cO->VS->Prop) 
  (W:∀ae ad j K,jW m g r l b=.ok ae j->f1I ae ad j->b<j->j<r.ts.length->rr 6 (dp r j::K) (dp r j::f1T ad)->T (.ret (.dS [])) (dp r j::K))
  (A:∀B ao j K,jW m g r l b=.bad B ao->6<=K.length+1->T (.eH (dt B ao)) (dp r j::K)):b4 C ca oP (nC [1,5,3]) (dp r b::f1T xs) T:=by
 have aj:=af.len;obtain⟨M,G,hv,x⟩:=ak;have E:=M.names;refine b4.body ad3 (fun _=>Z) ?_;refine p7 r af b ac (xs.map FE.n) 0 4 dc Z Z (fun k a=>?_) (fun k a=>?_) (fun k=>?_)
 ·have a:(r.tok b).text ∉ l.map eo.n:=E▸a;have Y:b+1<r.ts.length:=af.go b _ (b0 ac) om;intro ag;refine gZ af [58] Y ag _ 0 ?_ (fun D J=>?_) (fun D j=>?_)
  ·exact Z
  ·refine aa.call (b+1+1) om J 0 _ _ ?_ (fun U ap q2 I P=>?_) (fun B ah q2 I=>?_)
   ·exact Z
   ·obtain⟨ai,w⟩:=aa.lt _ _ _ om J I;obtain⟨c,f,tn,d,e,rfl⟩:=P.cZ;refine cI r q2 (r.tok q2) [61] (b0 w) om 0 ?_ (fun S=>?_) (fun S=>?_)
    ·exact Z
    ·have L:=af.step w S;repeat refine ch ?_
     refine H.call (q2+1) om L 0 _ _ ?_ (fun ab ar q3 F X=>?_) (fun B ah q3 F=>?_)
     ·exact Z
     ·obtain⟨am,Q⟩:=H.lt _ _ _ om L F;obtain⟨q,O,N,s,i,h,t,o,rfl⟩:=X.eight;intro aq;repeat refine cf ?_
      intro p;repeat refine cf ?_
      intro al;have V:jW m g r l b=.ok (l++[⟨(r.tok b).text,[],U,true,[ab]⟩]) q3:=by simp only[jW,eJ,k,ne_eq,not_true,if_false,a,cu,D,if_true,I,S,F,PR.map]
      have v:kI (l++[⟨(r.tok b).text,[],U,true,[ab]⟩]) (xs++[Oq (r.tok b).text c f tn d e true (.ps p 0 8 1 [[.int .i64 (agm q),.str O,.str N,.str s,.int .i64 i,h,t,o]])]):=M.snoc rfl rfl rfl P (.ps (.cons X .nil));have n:=vT (x:=(Oq (r.tok b).text c f tn d e true (.ps p 0 8 1 [[.int .i64 (agm q),.str O,.str N,.str s,.int .i64 i,h,t,o]]))) G E a;have u:∀y∈l++[(⟨(r.tok b).text,[],U,true,[ab]⟩:eo)],y.val.length<=1:=by
       exact Y7
      rcases xs with _|⟨R,z⟩;all_goals
       first
        |refine a6 rfl (a6 ⟨agl rfl,agl rfl⟩ (a7 rfl ?_))
        |refine a6 rfl (a6 ⟨rfl,rfl,by simp,agk _,rB (by simp only[agn,agq]at x⊢;omega) (agk _) (agl rfl)⟩ (a7 rfl (a7 (lk _) ?_)))
       refine W _ _ _ _ V ⟨v,n,u,by simp only[agp,agn,agv]at x⊢;omega⟩ om Q ⟨[0,1,2,3,4,5,8],Z,dc,by show 6<=7;omega,Z,Z,Z,Z,Z,Z,by first|exact DV (Oq (r.tok b).text c f tn d e true (.ps p 0 8 1 [[.int .i64 (agm q),.str O,.str N,.str s,.int .i64 i,h,t,o]])) rfl|exact vU R z (Oq (r.tok b).text c f tn d e true (.ps p 0 8 1 [[.int .i64 (agm q),.str O,.str N,.str s,.int .i64 i,h,t,o]])) rfl,B5 _ Z,acS _ (Oq (r.tok b).text c f tn d e true (.ps p 0 8 1 [[.int .i64 (agm q),.str O,.str N,.str s,.int .i64 i,h,t,o]])),lp _ _ (iM _),Z,Z,by first|exact zh (Oq (r.tok b).text c f tn d e true (.ps p 0 8 1 [[.int .i64 (agm q),.str O,.str N,.str s,.int .i64 i,h,t,o]]))|exact vV R z (Oq (r.tok b).text c f tn d e true (.ps p 0 8 1 [[.int .i64 (agm q),.str O,.str N,.str s,.int .i64 i,h,t,o]])),gH _ _ _,tv⟩
     ·exact A _ _ _ _ (by simp only[jW,eJ,k,ne_eq,not_true,if_false,a,cu,D,if_true,I,S,F,PR.map]) (by show 6<=8;omega)
    ·intro al;have V:jW m g r l b=.ok (l++[⟨(r.tok b).text,[],U,false,[]⟩]) q2:=by simp only[jW,eJ,k,ne_eq,not_true,if_false,a,cu,D,if_true,I,S,agj]
     have v:kI (l++[⟨(r.tok b).text,[],U,false,[]⟩]) (xs++[Oq (r.tok b).text c f tn d e false .ci]):=M.snoc rfl rfl rfl P .nil;have n:=vT (x:=(Oq (r.tok b).text c f tn d e false .ci)) G E a;have u:∀y∈l++[(⟨(r.tok b).text,[],U,false,[]⟩:eo)],y.val.length<=1:=by
      exact Y7
     rcases xs with _|⟨R,z⟩;all_goals
      first
       |refine a6 rfl (a6 ⟨agl rfl,agl rfl⟩ (a7 rfl ?_))
       |refine a6 rfl (a6 ⟨rfl,rfl,by simp,agk _,rB (by simp only[agn,agq]at x⊢;omega) (agk _) (agl rfl)⟩ (a7 rfl (a7 (lk _) ?_)))
      refine W _ _ _ _ V ⟨v,n,u,by simp only[agp,agn,agv]at x⊢;omega⟩ om w ⟨[0,1,2,3,4,5,8],Z,dc,by show 6<=7;omega,Z,Z,Z,Z,Z,Z,by first|exact DV (Oq (r.tok b).text c f tn d e false .ci) rfl|exact vU R z (Oq (r.tok b).text c f tn d e false .ci) rfl,B5 _ Z,acS _ (Oq (r.tok b).text c f tn d e false .ci),lp _ _ (iM _),Z,Z,by first|exact zh (Oq (r.tok b).text c f tn d e false .ci)|exact vV R z (Oq (r.tok b).text c f tn d e false .ci),gH _ _ _,tv⟩
   ·exact A _ _ _ _ (by simp only[jW,eJ,k,ne_eq,not_true,if_false,a,cu,D,if_true,I]) (by show 6<=8;omega)
  ·exact A _ _ _ _ (by simp only[jW,eJ,k,ne_eq,not_true,if_false,a,cu,D,agj]) (by show 6<=8;omega)
 ·have a:(r.tok b).text∈l.map eo.n:=E▸a;exact A _ _ _ _ (by simp only[jW,eJ,k,ne_eq,not_true,if_false,a,if_true]) (by show 6<=7;omega)
 ·exact A _ _ _ _ (by simp only[jW,eJ,k,ne_eq,not_false_eq_true,if_true]) (by show 6<=7;omega)
def Ff(a:Nat->PR Ex)(b:Rd):PR (List eo)->PR Ex
 |.bad c d=>.bad c d
 |.ok e q1=>(fj a b [61,62] q1).map (TF (kq 8 [] [] [] e))
def MF(G:r.Wf)(p:ef m r v)(c:mA cR g r v)(z:v<r.ts.length):
  b4 C ca mn [.bp 0 0] [dp r v] (K3 r (funcF m g r v)):=by
 have W:=G.len;refine cv ad2 (fun _=>Z) ?_;intro Q;refine gZ G [40] z Q _ 0 Z (fun y X=>?_) (fun y o=>?_)
 ·have M:funcF m g r v=Ff g r (gA (jW m g r) r [41] [] (v+1)):=by
   simp only[funcF,cu,y,if_true];cases gA (jW m g r) r [41] [] (v+1)<;>rfl
  rw[M];have c:mA cR g r (v+1):=c.up om;have p:ef m r (v+1):=⟨fun q ao o P=>p.lt q ao o om,fun q P=>p.call q om⟩;refine FN G [41] (jW m g r) f1I f1T (g0:=[]) (a0:=[]) [.box [.bp 0 0],.box jz,.box [.d .ci],pg [],.box [.map 4]] 6 oP Z [1,5,3] X ⟨.nil,agM,by simp,agt _⟩ (fun ai N o P=>⟨P.1,P.2.1,P.2.2.1,Nat.le_succ_of_le P.2.2.2⟩) Z Z (fun N=>by show 6<=7;omega) dc (fun ai N o U L ab af H ac=>WE G p c ai N o U L ab af H ac) (fun aq aa o I Y ag T=>?_) (fun j x o al I=>?_)
  ·obtain⟨S,A,ad,s⟩:=Y;rw[I];intro O;refine gZ G [61,62] T O _ 0 Z (fun h4 l=>?_) (fun h4 ap=>?_)
   ·rcases aa with _|⟨J,F⟩
    ·cases S;refine cC (Qf 8 [] .ci) Z Z ?_;repeat refine ch ?_
     refine c.call (o+1) om l 0 _ _ Z (fun ah V q4 e4 a=>?_) (fun j x q4 e4=>?_)
     ·obtain⟨h,i,k,n,b,f,e,d,rfl⟩:=a.eight;intro u;repeat refine cf ?_
      exact B6 7 1 (els:=[[.int .i64 (agm h),.str i,.str k,.str n,.int .i64 b,f,e,d]]) Z Z (.cons a .nil) .nil .nil (by simp only[Ff,fj,cu,h4,if_true,e4,PR.map];rfl)
     ·exact XR
    ·refine b4.gone ?_;refine ME 8 [] .ci S A ad ((F.map pe).length+1) sm (by simp only[agn,agq]at s⊢;omega) 6 7 dc (WB J F) Z (fun q ak K aj w t R=>?_);rcases K with _|⟨ae,B⟩
     ·repeat refine ch ?_
      refine c.call (o+1) om l 0 _ _ ?_ (fun ah V q4 e4 a=>?_) (fun j x q4 e4=>?_)
      ·exact Z
      ·obtain⟨h,i,k,n,b,f,e,d,rfl⟩:=a.eight;intro u;repeat refine cf ?_
       exact B6 9 1 (els:=[[.int .i64 (agm h),.str i,.str k,.str n,.int .i64 b,f,e,d]]) Z Z (t.snoc a) .nil w (by simp only[Ff,fj,cu,h4,if_true,e4,PR.map];rfl)
      ·exact XR
     ·repeat refine ch ?_
      refine c.call (o+1) om l 0 _ _ ?_ (fun ah V q4 e4 a=>?_) (fun j x q4 e4=>?_)
      ·exact Z
      ·obtain⟨h,i,k,n,b,f,e,d,rfl⟩:=a.eight;have D:B.length+1<=4294967296:=by simp only[agn,agq]at R s;omega
       intro u;refine a6 ?_ ?_
       ·repeat' (first|exact tv|exact rfl|refine bZ rfl ?_|refine agO ?_ ?_)
       refine a6 Z (a6 ⟨Z,Z,by simp,agk _,rB D (agk _) (agl Z)⟩ (a7 Z (a7 (lk _) ?_)));repeat refine cf ?_
       exact B6 9 (B.length+1+1) (TL 8 ae B [.int .i64 (agm h),.str i,.str k,.str n,.int .i64 b,f,e,d]) sm (t.snoc a) .nil w (by simp only[Ff,fj,cu,h4,if_true,e4,PR.map];rfl)
      ·exact XR
   ·exact BN (by simp only[Ff,fj,cu,h4,if_false,agj,PR.map])
  ·exact BN (by rw[I];rfl)
 ·refine a8 1 (cJ (by simp only[funcF,cu,y,if_false,agj]))
abbrev mEl(c d:cq)(b:Nat)(a:cH):FE:=⟨c,0,[],[],.ci,.ci,false,d,.ps b 0 8 1 [a]⟩
def ad4:Nat->Bool:=fun a=>ago a 9||ago a 15
def ad5:Nat->Bool:=fun a=>ago a 12||ago a 18||ago a 19||ago a 23
def J7(M:r.Wf)(aw:ef m r v)(d:mA cR g r v)(af:v<r.ts.length):
  b4 C ca pV [.bp 0 0] [dp r v] (K3 r (mz m g r v)):=by
 have ba:=M.len;refine cv ad4 (fun _=>Z) ?_;refine ph r M m v af aw 0 Z (fun O bw bl s W=>?_) (fun U av a s=>?_)
 ·obtain⟨bu,S⟩:=kr M (fun bh O a w aj B=>aw.lt bh O a w aj B) af s;obtain⟨az,aC,tn,aG,aN,rfl⟩:=W.cZ;intro aK;refine d.call bl om S 0 _ _ ?_ (fun n d0 aL f aa=>?_) (fun U av a f=>?_)
  ·exact Z
  ·obtain⟨bp,ag⟩:=d.lt _ _ _ om S f;obtain⟨aR,aH,aA,ae,R,T,X,Y,rfl⟩:=aa.eight;intro bj;refine gZ M [123] ag bj _ 0 ?_ (fun ap au=>?_) (fun ap a=>?_)
   ·exact Z
   ·have ah:fA [O] (.ps aK 0 5 1 [[.int .i64 (agm az),.str aC,.str tn,aG,aN]]):=.ps (.cons W .nil) sm;have aq:jt [n] [[.int .i64 (agm aR),.str aH,.str aA,.str ae,.int .i64 R,T,X,Y]]:=.cons aa .nil;have bi:mz m g r v=(gA (kJ g r) r [125] [] (aL+1)).map (kq 13 [] [O] [n]):=by simp only[mz,s,f,cu,ap,if_true]
    rw[bi];generalize bs:aL+1=l at au⊢;have d:mA cR g r l:=d.up om;refine b4.body ZQ (fun _=>Z) ?_;refine cI r l (r.tok l) [125] (b0 au) om 0 ?_ (fun A=>?_) (fun A=>?_)
    ·exact Z
    ·refine Dq (P:=fun E ax=>∃I,je (kq 13 [] [O] [n] []) I/\E=.ret (.agg (I.map V.d))) (dM:=[.agg (jx 13 [] _ (.d .ci) (.d .ci)),kV 0 8 [_],.d .ci]) (FL 13 [] _ ah aq) 8 Z (gr 8 _) Z Z (fun E ax aj=>?_);obtain⟨I,j,rfl⟩:=aj;obtain⟨H,aX,aY,J,q,m,L,N,rfl⟩:=j.eight;refine a8 1 (dQ (by rw[gA,if_pos A];rfl) j)
    ·refine cD (dB:=[(0,.bp 0 0),(1,cn [44]),(2,cn [125]),(3,.fn rZ [] [.bp 1 0,.bp 7 0,.bp 5 0])]) ?_;refine cd.gone ?_;refine cd.iter (fun _:Nat×List eo×List FE=>[(0,.bp 0 0),(1,cn [44]),(2,cn [125]),(3,.fn rZ [] [.bp 1 0,.bp 7 0,.bp 5 0])])
      (fun e=>[dp r e.1,.box [.bp 0 0],.box jz,.box (jx 13 [] (.ps aK 0 5 1 [[.int .i64 (agm az),.str aC,.str tn,aG,aN]]) (.d .ci) (.d .ci)),.box [b5 aR,cn aH,cn aA,cn ae,.d (.int .i64 R),.d T,.d X,.d Y],.box [kV 8 9 (J2 e.2.2)],pg (e.2.1.map eo.n),.box [.map 6],kO 9 (J2 e.2.2)]) (fun e=>r.ts.length-e.1)
      (fun e=>l<=e.1/\e.1<r.ts.length/\e.2.2.length<=e.1/\kI e.2.1 e.2.2/\(e.2.2.map FE.n).Nodup/\(∀y∈e.2.1,y.val.length<=1)/\∃x,r.ts.length-e.1<=x/\ji (kJ g r) r [125] r.ts.length [] l=ji (kJ g r) r [125] x e.2.1 e.1) ?_ (l,[],[]) ⟨agk _,au,agt _,.nil,agM,by simp,_,by show r.ts.length-l<=r.ts.length;omega,rfl⟩
     rintro⟨a,F,K⟩ ⟨aT,aO,aW,aM,aI,aE,x,aB,aS⟩;have br:l<=a:=aT;have aQ:a<r.ts.length:=aO;have D:K.length<=a:=aW;have ay:kI F K:=aM;have aU:(K.map FE.n).Nodup:=aI;have hv:∀y∈F,y.val.length<=1:=aE;have bv:r.ts.length-a<=x:=aB;have o:ji (kJ g r) r [125] r.ts.length [] l=ji (kJ g r) r [125] x F a:=aS;clear aT aO aW aM aI aE aB aS;obtain⟨x,rfl⟩:∃bk,x=bk+1:=⟨x-1,om⟩;have bo:=ay.names;have b:(gA (kJ g r) r [125] [] l).map (kq 13 [] [O] [n])=(ji (kJ g r) r [125] (x+1) F a).map (kq 13 [] [O] [n]):=by rw[gA,if_neg (by rw[A];decide),o]
     rw[ji]at b o;refine b4.body ad5 (fun _=>Z) ?_;repeat refine ch ?_
     refine p7 r M a aQ (F.map eo.n) 0 6 dc Z Z (fun i c=>?_) (fun i c=>?_) (fun i=>?_)
     ·have ad:a+1<r.ts.length:=M.go a _ (b0 aQ) om;repeat refine ch ?_
      refine kH r (a+1) _ (b0 ad) om 0 ?_ (fun h=>?_) (fun h=>?_)
      ·exact Z
      ·have aJ:a+1+1<r.ts.length:=M.go (a+1) _ (b0 ad) om;repeat refine ch ?_
       intro bc;refine gZ M [61,62] aJ bc _ 0 ?_ (fun w Q=>?_) (fun w bb=>?_)
       ·exact Z
       ·repeat refine ch ?_
        refine d.call (a+1+1+1) om Q 0 _ _ ?_ (fun aP I q1 G j=>?_) (fun U av q1 G=>?_)
        ·exact Z
        ·obtain⟨bm,ab⟩:=d.lt _ _ _ om Q G;obtain⟨H,aX,aY,J,q,ac,L,N,rfl⟩:=j.eight;intro bx;repeat refine cf ?_
         intro k;repeat refine cf ?_
         intro bz;have z:kI (F++[⟨(r.tok a).text,(r.tok (a+1)).text,cV,false,[aP]⟩]) (K++[mEl (r.tok a).text (r.tok (a+1)).text k [.int .i64 (agm H),.str aX,.str aY,.str J,.int .i64 q,ac,L,N]]):=ay.snoc rfl rfl rfl (.mk .nil .nil) (.ps (.cons j .nil));have p:=vT (x:=mEl (r.tok a).text (r.tok (a+1)).text k [.int .i64 (agm H),.str aX,.str aY,.str J,.int .i64 q,ac,L,N]) aU bo c;have u:∀y∈F++[(⟨(r.tok a).text,(r.tok (a+1)).text,cV,false,[aP]⟩:eo)],y.val.length<=1:=by
          exact aak
         have aF:kJ g r F a=.ok (F++[⟨(r.tok a).text,(r.tok (a+1)).text,cV,false,[aP]⟩]) q1:=by simp only[kJ,eJ,dh,i,h,ne_eq,not_true,if_false,c,fj,cu,w,if_true,G,PR.map]
         rw[aF]at b o;dsimp only at b o;rcases K with _|⟨an,t⟩;all_goals
          first
           |refine a6 rfl (a6 ⟨agl rfl,agl rfl⟩ (a7 rfl ?_))
           |refine a6 rfl (a6 ⟨rfl,rfl,by simp,agk _,rB (by simp only[agn,agq]at D⊢;omega) (agk _) (agl rfl)⟩ (a7 rfl (a7 (lk _) ?_)))
          refine cI r q1 (r.tok q1) [125] (b0 ab) om 0 ?_ (fun B=>?_) (fun B=>?_)
          ·exact Z
          ·rw[if_pos B]at b;first
            |refine b4.two (dM:=[.agg (jx 13 [] _ (.d .ci) (.d .ci)),kV 1 8 [_],.ms 0 9 0 1 1]) (P:=fun E _ _=>∃I,je (kq 13 [] [O] [n] _) I/\E=.ret (.agg (I.map V.d))) ((sQ 13 [] _ ah aq z p u (agk _) 1 rfl dc).mono (fun E aV A=>by obtain⟨l,ax,ai,ao,ar,am,al⟩:=A;exact⟨l,ax,ai,am,ao,ar,al⟩)) 10 11 dc rfl rfl (jv 0 9 _) (gr 8 _) rfl rfl (fun E bg bf A=>?_)
            |refine b4.two (dM:=[.agg (jx 13 [] _ (.d .ci) (.d .ci)),kV 1 8 [_],.ms 0 9 0 ((t.map pe).length+1+1) ((t.map pe).length+1+1)]) (P:=fun E _ _=>∃I,je (kq 13 [] [O] [n] _) I/\E=.ret (.agg (I.map V.d))) ((sQ 13 [] _ ah aq z p u (agk _) ((t.map pe).length+1+1) sm (by simp only[agn,agq]at D⊢;omega)).mono (fun E aV A=>by obtain⟨l,ax,ai,ao,ar,am,al⟩:=A;exact⟨l,ax,ai,am,ao,ar,al⟩)) 10 11 dc (FM an t (mEl (r.tok a).text (r.tok (a+1)).text k _)) rfl (jv 0 9 _) (gr 8 _) rfl rfl (fun E bg bf A=>?_)
           obtain⟨I,j,rfl⟩:=A;obtain⟨H,aX,aY,J,q,m,L,N,rfl⟩:=j.eight;refine a8 1 (dQ (by rw[b];rfl) j)
          ·rw[if_neg (by rw[B];decide)]at b o;intro be;refine gZ M [44] ab be _ 0 ?_ (fun ak aD=>?_) (fun ak bb=>?_)
           ·exact Z
           ·rw[vX ak]at o;refine⟨(q1+1,_,_),⟨by show l<=q1+1;omega,aD,by simp only[agp,agn,agv]at D⊢;omega,z,p,u,x,by show r.ts.length-(q1+1)<=x;omega,o⟩,by show r.ts.length-(q1+1)<r.ts.length-a;omega,.pick 8 [0,1,2,3,4,5,6,7,10] ⟨Z,Z,Z,Z,tv⟩ Z Z Z Z Z dc ⟨Z,Z,Z,Z,Z,Z,Z,Z,Z,Z,by first|exact DV (mEl (r.tok a).text (r.tok (a+1)).text k _) rfl|exact vU an t (mEl (r.tok a).text (r.tok (a+1)).text k _) rfl,B5 _ Z,Oj F ⟨(r.tok a).text,(r.tok (a+1)).text,cV,false,[aP]⟩,lp _ _ (iM _),Z,Z,by first|exact zh (mEl (r.tok a).text (r.tok (a+1)).text k _)|exact vV an t (mEl (r.tok a).text (r.tok (a+1)).text k _),gH _ _ _,tv⟩,Z,Z⟩
           ·refine a8 1 (cJ (by rw[b];simp only[cu,ak,if_false,agj,PR.map]))
        ·refine a8 1 (cJ (by rw[b];simp only[kJ,eJ,dh,i,h,ne_eq,not_true,if_false,c,fj,cu,w,if_true,G,PR.map]))
       ·refine a8 1 (cJ (by rw[b];simp only[kJ,eJ,dh,i,h,ne_eq,not_true,if_false,c,fj,cu,w,agj,PR.map]))
      ·refine a8 1 (cJ (by rw[b];simp only[kJ,eJ,dh,i,h,ne_eq,not_true,not_false_eq_true,if_false,c,if_true,PR.map]))
     ·refine a8 1 (cJ (by rw[b];simp only[kJ,eJ,i,ne_eq,not_true,if_false,c,if_true,PR.map]))
     ·refine a8 1 (cJ (by rw[b];simp only[kJ,eJ,i,ne_eq,not_false_eq_true,if_true,PR.map]))
   ·refine a8 1 (cJ (by simp only[mz,s,f,cu,ap,if_false,agj]))
  ·refine a8 1 (cJ (by simp only[mz,s,f]))
 ·refine a8 1 (cJ (by simp only[mz,s]))
abbrev wD(c:Rd)(lo:Nat)(fn:Nat->PR Ex):Prop:=∀a d b,lo<=a->a<c.ts.length->fn a=.ok d b->a<b/\b<c.ts.length
abbrev MG(c:Rd)(lo:Nat)(fn:Nat->PR Ty):Prop:=∀a d b,lo<=a->a<c.ts.length->fn a=.ok d b->a<b/\b<c.ts.length
def k5(f:r.Wf){lo:Nat}(b:wD r lo g){p a:Nat}(d:lo<=p)(c:p<r.ts.length)(e:fj g r G p=.ok M a):p<a/\a<r.ts.length:=On f b d c (.inr e)
def p9(e:r.Wf){p a:Nat}{d:Unit}(b:p<r.ts.length)(c:cu r [G] p=.ok d a):p<a/\a<r.ts.length:=by
 have e1:=cL _ _ _ c;have e2:=da e _ _ _ b c;exact XP
def WG(h:r.Wf){lo:Nat}(b:wD r lo g):wD r lo (xI g r):=by
 intro q p w j c a;rw[xI]at a;split at a
 ·cases a
 rename_i s q1 f;obtain⟨o,l⟩:=fS h c f;split at a
 ·cases a
 rename_i t q2 e;obtain⟨x,k⟩:=k5 h b om l e;obtain⟨n,d,_⟩:=dv a;obtain⟨y,i⟩:=k5 h b om k d;exact⟨om,i⟩
def TN(j:r.Wf){lo:Nat}(e:MG r lo m)(c:wD r lo g):wD r lo (oT m g r):=by
 intro I C k o d a;rw[oT]at a;split at a
 ·cases a
 rename_i s q1 h;obtain⟨B,w⟩:=kr j (fun i x k q=>e i x k om) d h;split at a
 ·cases a
 rename_i t q2 f;obtain⟨K,p⟩:=c q1 t q2 om w f;split at a
 ·cases a
 rename_i l q3 b;obtain⟨P,n⟩:=k5 j c om p b;obtain⟨l,b,_⟩:=dv a;obtain⟨D,y⟩:=k5 j c om n b;exact⟨om,y⟩
def Qm(e:r.Wf){lo:Nat}(h:MG r lo m)(f:wD r lo g):wD r lo (mz m g r):=by
 intro y R n i c a;rw[mz]at a;split at a
 ·cases a
 rename_i s q1 d;obtain⟨t,l⟩:=kr e (fun p D n B=>h p D n om) c d;split at a
 ·cases a
 rename_i C q2 k;obtain⟨K,j⟩:=f q1 C q2 om l k;split at a
 ·cases a
 rename_i q q3 b;obtain⟨V,w⟩:=p9 e j b;obtain⟨q,b,_⟩:=dv a;have:=zj e (lo:=lo) (fun t y x n i c a=>?_) om w b
 ·exact⟨om,this.2⟩
 ·rw[kJ]at a;split at a
  ·cases a
  rename_i s q1 d;obtain⟨t,l⟩:=Ar e c d;split at a
  ·cases a
  rename_i P q2 o;obtain⟨K,j⟩:=fS e l o;obtain⟨q,b,_⟩:=dv a;obtain⟨S,I⟩:=k5 e f om j b;exact⟨om,I⟩
def TO(d:r.Wf){lo:Nat}(h:MG r lo m)(c:wD r lo g):wD r lo (lQ m g r):=by
 intro V R l t f b;rw[lQ]at b;split at b
 ·cases b
 rename_i s q1 j;obtain⟨K,B⟩:=kr d (fun k D l y=>h k D l om) f j;split at b
 ·cases b
 rename_i u q2 i;obtain⟨z,x⟩:=fS d B i;split at b
 ·cases b
 rename_i e q3 a;obtain⟨A,o⟩:=p9 d x a;split at b
 ·cases b
 rename_i e q4 a;obtain⟨S,I⟩:=fS d o a;split at b
 ·cases b
 rename_i e w a;obtain⟨P,q⟩:=k5 d c om I a;split at b
 ·cases b
 rename_i e p a;obtain⟨E,C⟩:=k5 d c om q a;obtain⟨e,a,_⟩:=dv b;obtain⟨v,n⟩:=k5 d c om C a;exact⟨om,n⟩
def TP(f:r.Wf){lo:Nat}(j:MG r lo m)(h:wD r lo g):wD r lo (funcF m g r):=by
 intro C K x k b a;rw[funcF]at a;split at a
 ·cases a
 rename_i s q1 d;obtain⟨q,o⟩:=p9 f b d;split at a
 ·cases a
 rename_i R q2 n;have l:=zj f (lo:=lo) (fun q C B x k b a=>?_) om o n
 ·obtain⟨p,c,_⟩:=dv a;obtain⟨S,y⟩:=k5 f h om l.2 c;exact⟨om,y⟩
 ·rw[jW]at a;split at a
  ·cases a
  rename_i s q1 d;obtain⟨q,o⟩:=Ar f b d;split at a
  ·cases a
  rename_i t q2 e;obtain⟨V,D⟩:=p9 f o e;split at a
  ·cases a
  rename_i t q3 e;obtain⟨u,w⟩:=j q2 t q3 om D e;split at a
  ·rename_i i;obtain⟨p,c,_⟩:=dv a;obtain⟨P,I⟩:=h (q3+1) p x om (f.step w i) c;exact⟨om,I⟩
  ·cases a;exact⟨om,w⟩
def Qn(k:r.Wf){lo:Nat}(h:MG r lo m){s:cq}{p f:Nat}(n:lo<=p)(d:p<r.ts.length)(c:iH m r s p=.ok M f):p<=f/\f<r.ts.length:=by
 rw[iH]at c;split at c
 ·cases c
 ·rename_i x B y q1 b;have e:p<=q1/\q1<r.ts.length:=by
   split at b
   ·rename_i j;obtain⟨l,a,_⟩:=dv b;obtain⟨w,q⟩:=fS k (k.step d j) a;exact⟨om,q⟩
   ·cases b;exact⟨agk _,d⟩
  split at c
  ·obtain⟨l,a,_⟩:=dv c;have:=Dn k (fun i t f o=>h i t f om) e.2 a;exact⟨om,this.2⟩
  ·cases c;exact e
def TQ(f:r.Wf){lo:Nat}(l:MG r lo m)(j:wD r (lo+1) g):wD r lo (gd m g r):=by
 intro n P C q c a;have p:(r.tok n).kind≠0->n+1<r.ts.length:=fun a=>f.go n _ (b0 c) a;rw[gd]at a;split at a
 ·exact Om f c a
 split at a
 ·cases a;exact⟨om,p om⟩
 split at a
 ·have:=Qn f l om (p om) a;exact⟨om,this.2⟩
 split at a
 ·rename_i b;have:=f.step c b;cases a;exact⟨om,this⟩
 split at a
 ·rename_i b;have:=f.step c b;cases a;exact⟨om,this⟩
 split at a
 ·rename_i b;obtain⟨w,k⟩:=As f j om (f.step c b) a;exact⟨om,k⟩
 split at a
 ·rename_i b;have e:=f.step c b;split at a
  ·cases a
  rename_i s q1 i;obtain⟨w,k⟩:=fS f e i;split at a
  ·cases a
  rename_i B q2 h;obtain⟨D,t⟩:=k5 f j om k h;obtain⟨o,d,_⟩:=dv a;obtain⟨K,x⟩:=p9 f t d;exact⟨om,x⟩
 split at a
 ·rename_i b;have e:=f.step c b;split at a
  ·cases a
  rename_i s q1 i;obtain⟨w,k⟩:=l (n+1) s q1 om e i;split at a
  ·cases a
  rename_i B q2 h;obtain⟨D,t⟩:=p9 f k h;obtain⟨o,d,_⟩:=dv a;have:=zj f (lo:=lo+1) (fun w n I C q c a=>by
   obtain⟨o,d,_⟩:=dv a;exact j n o C q c d) om t d
  exact⟨om,this.2⟩
 split at a
 ·rename_i b;have e:=f.step c b;split at a
  ·cases a
  rename_i s q1 i;obtain⟨w,k⟩:=j (n+1) s q1 om e i;split at a
  ·cases a
  rename_i B q2 h;have y:q1<=q2/\q2<r.ts.length:=by
   split at h
   ·rename_i b;obtain⟨o,d,_⟩:=dv h;obtain⟨D,t⟩:=l (q1+1) o q2 om (f.step k b) d;exact⟨om,t⟩
   ·cases h;exact⟨agk _,k⟩
  obtain⟨o,d,_⟩:=dv a;obtain⟨K,x⟩:=p9 f y.2 d;exact⟨om,x⟩
 ·cases a
def aa5(j:r.Wf){lo:Nat}(e:MG r (lo+1) m)(d:wD r (lo+1) g)(l:wD r lo (Wo m g r)):wD r lo (ET m g r):=by
 intro f i h n k b;have c:(r.tok f).kind=5->f+1<r.ts.length:=fun b=>j.go f _ (b0 k) om;rw[ET]at b;split at b
 ·rename_i a;have:=WG j d (f+1) i h om (c a.1) b;exact⟨om,this.2⟩
 split at b
 ·rename_i a;have:=TN j e d (f+1) i h om (c a.1) b;exact⟨om,this.2⟩
 split at b
 ·rename_i a;have:=Qm j e d (f+1) i h om (c a.1) b;exact⟨om,this.2⟩
 split at b
 ·rename_i a;have:=TO j e d (f+1) i h om (c a.1) b;exact⟨om,this.2⟩
 split at b
 ·rename_i a;have:=TP j e d (f+1) i h om (c a.1) b;exact⟨om,this.2⟩
 exact l f i h n k b
def va{p:Nat}(f:b4 C ca Y [.bp 0 0] [dp r p] (K3 r Q))(d:Nat)(c:nth H d=some (dp r p))(h:∀l e b,Q=.ok l b->je l e->u (.ret (.agg (e.map V.d))) (H.set d (dp r b))) 
  (k:∀a o b,Q=.bad a o->u (.eH (dt a o)) (H.set d (dp r b))):b4 C ca Y [.bp d 0] H u:=by
 refine b4.one (dM:=[.bp 0 0]) (P:=Qg r Q) f d c Z Z Z (fun s n f=>?_);cases Q with
 |ok q b=>
  obtain⟨rfl,e,i,rfl⟩:=f;exact h q e b Z i
 |bad a j=>
  obtain⟨b,rfl,rfl⟩:=f;exact k a j b Z
def Be:List rL:=[⟨cn [108,101,116],.fn sF [.bp 0 0] [],0⟩,⟨cn [105,102],.fn kn [.bp 0 0] [],1⟩,⟨cn [109,97,116,99,104],.fn pV [.bp 0 0] [],2⟩,⟨cn [102,111,108,100],.fn rm [.bp 0 0] [],3⟩,⟨cn [102,110],.fn mn [.bp 0 0] [],4⟩]
def MH(h1:G≠[108,101,116])(h2:G≠[105,102])(h3:G≠[109,97,116,99,104])(h4:G≠[102,111,108,100])(h5:G≠[102,110]):eN .string (cn G) Be 0=some none:=by
 unfold Be;exact Ze
def MI(x:r.Wf){p:Nat}(t:ef m r (p+1))(k:mA cR g r (p+1))(w:mA qN (Wo m g r) r p)(h:p<r.ts.length):
  b4 C ca cR [.bp 0 0] [dp r p] (K3 r (ET m g r p)):=by
 have P:=x.len;refine cm ?_;refine cc none Z ?_;refine cc none Z ?_;refine cc none Z ?_;refine cc none Z ?_;refine cc none Z ?_;refine eF r p _ (b0 h) 0 Z ?_;by_cases b:(r.tok p).kind=5
 ·refine cg (zk b) ?_;have i:p+1<r.ts.length:=x.go p _ (b0 h) om;have j:eu (r.tok p) p=p+1:=by rw[eu,if_neg om]
  by_cases t1:(r.tok p).text=[108,101,116]
  ·refine cc (some (0,.fn sF [.bp 0 0] [])) (show eN .string (cn (r.tok p).text) Be 0=_ by rw[t1];rfl) ?_;refine dK r p _ (b0 h) om 0 Z ?_;rw[j];refine va (Qk x k i) 0 Z (fun y D s c a=>?_) (fun e l s c=>?_)
   ·obtain⟨B,K,I,o,d,f,q,n,rfl⟩:=a.eight;refine a8 1 (dQ (by simp only[ET,b,t1,true_and,if_true,if_false];exact c) a)
   ·refine a8 1 (cJ (by simp only[ET,b,t1,true_and,if_true,if_false];exact c))
  by_cases t2:(r.tok p).text=[105,102]
  ·refine cc (some (1,.fn kn [.bp 0 0] [])) (show eN .string (cn (r.tok p).text) Be 0=_ by rw[t2];rfl) ?_;refine dK r p _ (b0 h) om 0 Z ?_;rw[j];refine va (MA x t k i) 0 Z (fun y D s c a=>?_) (fun e l s c=>?_)
   ·obtain⟨B,K,I,o,d,f,q,n,rfl⟩:=a.eight;refine a8 1 (dQ (by simp only[ET,b,t1,t2,true_and,if_true,if_false];exact c) a)
   ·refine a8 1 (cJ (by simp only[ET,b,t1,t2,true_and,if_true,if_false];exact c))
  by_cases t3:(r.tok p).text=[109,97,116,99,104]
  ·refine cc (some (2,.fn pV [.bp 0 0] [])) (show eN .string (cn (r.tok p).text) Be 0=_ by rw[t3];rfl) ?_;refine dK r p _ (b0 h) om 0 Z ?_;rw[j];refine va (J7 x t k i) 0 Z (fun y D s c a=>?_) (fun e l s c=>?_)
   ·obtain⟨B,K,I,o,d,f,q,n,rfl⟩:=a.eight;refine a8 1 (dQ (by simp only[ET,b,t1,t2,t3,true_and,if_true,if_false];exact c) a)
   ·refine a8 1 (cJ (by simp only[ET,b,t1,t2,t3,true_and,if_true,if_false];exact c))
  by_cases t4:(r.tok p).text=[102,111,108,100]
  ·refine cc (some (3,.fn rm [.bp 0 0] [])) (show eN .string (cn (r.tok p).text) Be 0=_ by rw[t4];rfl) ?_;refine dK r p _ (b0 h) om 0 Z ?_;rw[j];refine va (MB x t k i) 0 Z (fun y D s c a=>?_) (fun e l s c=>?_)
   ·obtain⟨B,K,I,o,d,f,q,n,rfl⟩:=a.eight;refine a8 1 (dQ (by simp only[ET,b,t1,t2,t3,t4,true_and,if_true,if_false];exact c) a)
   ·refine a8 1 (cJ (by simp only[ET,b,t1,t2,t3,t4,true_and,if_true,if_false];exact c))
  by_cases t5:(r.tok p).text=[102,110]
  ·refine cc (some (4,.fn mn [.bp 0 0] [])) (show eN .string (cn (r.tok p).text) Be 0=_ by rw[t5];rfl) ?_;refine dK r p _ (b0 h) om 0 Z ?_;rw[j];refine va (MF x t k i) 0 Z (fun y D s c a=>?_) (fun e l s c=>?_)
   ·obtain⟨B,K,I,o,d,f,q,n,rfl⟩:=a.eight;refine a8 1 (dQ (by simp only[ET,b,t1,t2,t3,t4,t5,true_and,if_true,if_false];exact c) a)
   ·refine a8 1 (cJ (by simp only[ET,b,t1,t2,t3,t4,t5,true_and,if_true,if_false];exact c))
  refine cc none (show eN .string (cn (r.tok p).text) Be 0=_ from MH t1 t2 t3 t4 t5) ?_;refine w.call p (agk _) h 0 _ _ Z (fun y D s c a=>?_) (fun e l s c=>?_)
  ·obtain⟨B,K,I,o,d,f,q,n,rfl⟩:=a.eight;refine a8 1 (dQ (by simp only[ET,b,t1,t2,t3,t4,t5,true_and,if_false];exact c) a)
  ·refine a8 1 (cJ (by simp only[ET,b,t1,t2,t3,t4,t5,true_and,if_false];exact c))
 ·refine a7 (B7 b) ?_;refine w.call p (agk _) h 0 _ _ Z (fun y D s c a=>?_) (fun e l s c=>?_)
  ·obtain⟨B,K,I,o,d,f,q,n,rfl⟩:=a.eight;refine a8 1 (dQ (by simp only[ET,b,false_and,if_false];exact c) a)
  ·refine a8 1 (cJ (by simp only[ET,b,false_and,if_false];exact c))
def aa6(b:r.Wf)(c:r.Ng){lo:Nat}(e:ef m r lo)(a:mA cR g r (lo+1)):mA qN (Wo m g r) r lo:=by
 have l:mA nw (gd m g r) r lo:=mA.of (fun i j f k d n=>TQ b (fun i j f n=>e.lt i j f om) (fun i j f n=>a.lt i j f om) i j f k d n) (fun i k d=>MD b c ⟨fun h w f n=>e.lt h w f om,fun h n=>e.call h om⟩ (a.up om) d);have o:=aa3 b l a;have p:=acR b c o r.ts.length lo r.ts.length (agk _) om om;have s:=acM b p;have t:=acN b s;have q:=acQ b t r.ts.length lo r.ts.length (agk _) om om;exact adS b (acO b q)
def ZS(h:r.Wf)(i:r.Ng):∀(f lo:Nat),r.ts.length-lo<=f->mA cR (Ih r f) r lo:=by
 intro f;induction f with
 |zero=>intro lo k;exact⟨fun d o j b a=>om,fun d b a=>om⟩
 |succ f e=>
  intro lo k;have c:mA qN (Wo (b8 r r.ts.length) (Ih r f) r) r lo:=aa6 h i (Ds h r.ts.length lo om) (e (lo+1) om);have n:=Ds h r.ts.length lo om;refine mA.of (fun d l j b a k=>aa5 h (lo:=lo) (fun d l j k=>n.lt d l j om) (e (lo+1) om).lt c.lt d l j b a k) (fun d b a=>?_);exact MI h (Ds h r.ts.length (d+1) om) (e (d+1) om) (c.up b) a
def Rd.Nm(b:Rd):Prop:=∀a,a<b.ts.length->((b.tok a).kind=1->cK (b.tok a).text=true)/\((b.tok a).kind=2->dX (b.tok a).text=true)
def vw{R:Rd}(c:jl G=.ok R.ts):R.Nm:=by
 obtain⟨_,_,_,_,b⟩:=B8 c;intro f a;have:=b0 a;obtain⟨e,d,_⟩:=b _ (List.mem_of_getElem? this);exact⟨e,d⟩
def Good(d:Nat->PR Ty)(e:Rd)(lo:Nat):Prop:=∀a c b,lo<=a->a<e.ts.length->d a=.ok c b->ft c/\ct c+a<=b/\a<b/\b<e.ts.length
def Kd{l a:List Ty}(f:l.Perm a):cy l=cy a:=by
 induction f with
 |nil=>rfl
 |cons e _ b=>simp only[cy,b]
 |swap e h l=>simp only[cy];omega
 |trans _ _ d c=>rw[d,c]
def EV(y:r.Wf){lo:Nat}(p:Good m r lo):
  ∀(l:Nat) (a:List Ty) (d:Nat) (j:List Ty) (i:Nat),lo<=d->d<r.ts.length->(∀f∈a,ft f)->ey m r l a d=.ok j i->(∀f∈j,ft f)/\cy j+d<=cy a+i/\i<r.ts.length:=by
 intro l;induction l with
 |zero=>intro a d j i _ _ _ b;cases b
 |succ l w=>
  intro a d j i t s x b;rw[ey]at b;cases h:m d with
  |bad C R=>rw[h]at b;cases b
  |ok n q1=>
   rw[h]at b;obtain⟨q,I,D,k⟩:=p d n q1 t s h;have e:∀f∈a++[n],ft f:=fun f hx=>by
    rcases agu.1 hx with hx|hx
    ·exact x f hx
    ·simp at hx;subst hx;exact q
   have K:cy (a++[n])=cy a+ct n:=by rw[ga];simp[cy]
   dsimp only at b;split at b
   ·rename_i o;obtain⟨B,S,P⟩:=w _ _ _ _ om (y.step k o) e b;exact⟨B,om,P⟩
   ·cases c:cu r [[93]] q1 with
    |bad C R=>rw[c]at b;cases b
    |ok V q2=>
     rw[c]at b;cases b;have:=cL _ _ _ c;exact⟨e,om,da y _ _ _ k c⟩
def xN(e:r.Wf){p:Nat}(d:Good m r p)(a:p<r.ts.length){l:List Ty}(b:jV m r p=.ok l v):(∀f∈l,ft f)/\cy l+p<=v/\v<r.ts.length:=by
 rw[jV]at b;split at b
 ·rename_i c;obtain⟨j,h,i⟩:=EV e d _ _ _ _ _ om (e.step a c) sm b;simp only[cy]at h;exact⟨j,om,i⟩
 ·cases b;exact⟨by simp,by simp[cy],a⟩
structure FlG (tV:Bool) (l:List oG):Prop where
 name:∀x∈l,cK x.1=true
 all:∀x∈l,ft x.2.1
 tV:tV=false->∀x∈l,x.2.2=false
 nd:(l.map (·.1)).Nodup
def FlG.snoc{a:Bool}{l:List oG}{n:cq}{t:Ty}{o:Bool}(d:FlG a l)(i:cK n=true)(f:ft t)(j:a=false->o=false)(h:n ∉ l.map (·.1)):FlG a (l++[(n,t,o)]):=by
 refine⟨fun x hx=>?_,fun x hx=>?_,fun b x hx=>?_,?_⟩
 ·rcases agu.1 hx with hx|hx
  ·exact d.name x hx
  ·simp at hx;subst hx;exact i
 ·rcases agu.1 hx with hx|hx
  ·exact d.all x hx
  ·simp at hx;subst hx;exact f
 ·rcases agu.1 hx with hx|hx
  ·exact d.tV b x hx
  ·simp at hx;subst hx;exact j b
 ·rw[agD,List.nodup_append];refine⟨d.nd,by simp,?_⟩;intro q e p c k;simp only[agz,agA,agF]at c;subst k;subst c;exact h e
def BJ(x:r.Wf)(S:r.Nm){lo:Nat}(I:Good m r lo)(i n:cq)(a:Bool):
  ∀(C:Nat) (b:List oG) (c:Nat) (y:List oG) (t:Nat),lo<=c->c<r.ts.length->FlG a b->db m r i n a C b c=.ok y t->FlG a y/\cy (ea y)+c<=cy (ea b)+t/\t<r.ts.length:=by
 intro C;induction C with
 |zero=>intro b c y t _ _ _ d;cases d
 |succ C V=>
  intro b c y t J o g d;rw[db]at d;split at d
  ·cases d
  ·rename_i k;have k:(r.tok c).kind=1:=by simpa using k
   have h:c+1<r.ts.length:=x.go c _ (b0 o) om;split at d
   ·cases d
   ·rename_i p;have s:(if a&&c5 (r.tok (c+1)) [63]then c+1+1 else c+1)<r.ts.length:=by
     split
     ·rename_i q;rw[Bool.and_eq_true]at q;exact x.step h q.2
     ·exact h
    have z:c+1<=(if a&&c5 (r.tok (c+1)) [63]then c+1+1 else c+1):=by split<;>omega
    cases f:cu r [[58]] (if a&&c5 (r.tok (c+1)) [63]then c+1+1 else c+1)with
    |bad u E=>rw[f]at d;cases d
    |ok M q2=>
     rw[f]at d;dsimp only at d;have w:=da x _ _ _ s f;have v:=cL _ _ _ f;cases l:m q2 with
     |bad u E=>rw[l]at d;cases d
     |ok D q1=>
      rw[l]at d;dsimp only at d;obtain⟨K,H,G,B⟩:=I q2 D q1 om w l;have j:FlG a (b++[((r.tok c).text,D,a&&c5 (r.tok (c+1)) [63])]):=g.snoc ((S c o).1 k) K (fun P=>by rw[P];rfl) p;have L:cy (ea (b++[((r.tok c).text,D,a&&c5 (r.tok (c+1)) [63])]))=cy (ea b)+ct D:=by
       simp only[ea,agD,ga,agz,agA,cy,Nat.add_zero]
      split at d
      ·rename_i R;cases d;exact⟨j,om,x.step B R⟩
      ·cases e:cu r [i] q1 with
       |bad u E=>rw[e]at d;cases d
       |ok M q3=>
        rw[e]at d;have A:=cL _ _ _ e;obtain⟨F,O,N⟩:=V _ _ _ _ om (da x _ _ _ B e) j d;exact⟨F,om,N⟩
def sW(x:r.Wf)(t:r.Nm){p:Nat}(o:Good m r p){c:cq}{a:Bool}(b:p<r.ts.length){l:List oG}(i:eY m r G c a p=.ok l v):
  FlW a l/\(∀e∈ea l,ft e)/\cy (ea l)+p<=v/\v<r.ts.length:=by
 rw[eY]at i;split at i
 ·rename_i n;cases i;exact⟨⟨by simp,List.Pairwise.nil,by simp⟩,by simp[ea],by simp[ea,cy],x.step b n⟩
 ·cases h:db m r G c a r.ts.length [] p with
  |bad I K=>rw[h]at i;cases i
  |ok j D=>
   rw[h]at i;cases i;obtain⟨k,B,C⟩:=BJ x t o G c a _ _ _ _ _ (agk _) b ⟨by simp,by simp,by simp,by simp⟩ h;have b:=dE (key:=fun e:oG=>e.1) j;have f:(ea (cG (·.1) j)).Perm (ea j):=b.map _;refine⟨⟨fun e d=>k.name e (b.subset d),iG k.nd,fun q e d=>k.tV q e (b.subset d)⟩,fun e d=>?_,?_,C⟩
   ·obtain⟨y,s,rfl⟩:=agH.1 (f.subset d);exact k.all y s
   ·rw[Kd f];simp only[ea,agA,cy]at B⊢;omega
def Qw(s:r.Wf)(x:r.Nm){V p k:Nat}{t:Ty}(h:Good m r p) 
  (d:v≠0->p<r.ts.length) (I:v=1->cK G=true) (u:v=2->dX G=true) (b:ja m r v G V p=.ok t k):ft t/\ct t+p<=k+1/\p<=k/\k<r.ts.length:=by
 obtain⟨C,P⟩:=Ok s (fun l t k w F H=>⟨(h l t k w F H).2.2.1,(h l t k w F H).2.2.2⟩) d b
 suffices ft t/\ct t+p<=k+1 from⟨this.1,this.2,C,P⟩
 unfold ja at b;split at b
 ·have d:=d om;split at b
  ·rename_i O e;cases b;refine⟨.mk (.base ?_) (by simp[dD,ea]),by simp[ct,cy,qa];omega⟩;unfold u9 at e;split at e
   ·cases e;omega
   ·split at e
    ·cases e;omega
    ·split at e
     ·cases e;omega
     ·split at e
      ·cases e;omega
      ·split at e
       ·cases e;omega
       ·cases e
  ·split at b
   ·obtain⟨w,a,rfl⟩:=fH b;rw[dO]at a;cases c:cu r [[91]] p with
    |bad S g=>rw[c]at a;cases a
    |ok A q1=>
     rw[c]at a;dsimp only at a;have B:=cL _ _ _ c;have j:=da s _ _ _ d c;cases R:m q1 with
     |bad S g=>rw[R]at a;cases a
     |ok t q2=>
      rw[R]at a;dsimp only at a;obtain⟨f,i,o,y⟩:=h q1 t q2 om j R;cases q:cu r [[93]] q2 with
      |bad S g=>rw[q]at a;cases a
      |ok A q3=>
       rw[q]at a;cases a;have E:=cL _ _ _ q;exact⟨.mk .list (by simp[dD,ea];exact f),by simp[ct,cy,qa];omega⟩
   ·split at b
    ·cases c:cu r [[40]] p with
     |bad S g=>rw[c]at b;cases b
     |ok A q1=>
      rw[c]at b;dsimp only at b;have B:=cL _ _ _ c;have j:=da s _ _ _ d c;cases K:eY m r [44] [41] true q1 with
      |bad S g=>rw[K]at b;cases b
      |ok Q q2=>
       rw[K]at b;dsimp only at b;obtain⟨f,i,o,y⟩:=sW s x (fun l t k I=>h l t k om) j K;obtain⟨w,a,rfl⟩:=fH b;obtain⟨z,J,N,M⟩:=h q2 w k om y a;refine⟨.mk (.func f) (fun L hx=>?_),?_⟩
       ·simp only[dD,agu,agF]at hx;rcases hx with rfl|hx
        ·exact z
        ·exact i L hx
       ·simp only[ct,cy,nE];omega
    ·cases b
 ·split at b
  ·have d:=d om;split at b
   ·obtain⟨w,a,rfl⟩:=fH b;obtain⟨f,i,o,y⟩:=sW s x h d a;exact⟨.mk (.Rz f) (by simpa [dD]using i),by simp only[ct,cy,nE];omega⟩
   ·split at b
    ·obtain⟨w,a,rfl⟩:=fH b;obtain⟨f,i,o,y⟩:=sW s x h d a;exact⟨.mk (.vrt f) (by simpa [dD]using i),by simp only[ct,cy,nE];omega⟩
    ·cases b
  ·split at b
   ·rename_i D;obtain⟨w,a,rfl⟩:=fH b;obtain⟨f,i,o⟩:=xN s h (d om) a;exact⟨.mk (.ref (.inl Z) (u D)) (by simpa [dD,ea]using f),by simp only[ct,qa];omega⟩
   ·split at b
    ·rename_i D;have d:=d om;cases c:cu r [[58,58]] p with
     |bad S g=>rw[c]at b;cases b
     |ok A q1=>
      rw[c]at b;dsimp only at b;have B:=cL _ _ _ c;have j:=da s _ _ _ d c;split at b
      ·cases b
      ·rename_i n;have n:(r.tok q1).kind=2:=by simpa using n
       obtain⟨w,a,rfl⟩:=fH b;obtain⟨f,i,o⟩:=xN s (fun l t k I=>h l t k om) (s.go q1 _ (b0 j) om) a;exact⟨.mk (.ref (.inr (I D)) ((x q1 j).2 n)) (by simpa [dD,ea]using f),by simp only[ct,qa];omega⟩
    ·cases b
def pt(q:r.Wf)(c:r.Nm):∀(f:Nat),Good (b8 r f) r 0:=by
 intro f;induction f with
 |zero=>intro e n i _ _ h;cases h
 |succ f k=>
  intro e n i _ b h;rw[b8]at h;obtain⟨a,s,t,d⟩:=Qw q c (p:=e+1) (fun o n i _ p l=>k o n i (agt _) p l) (fun j=>q.go e _ (b0 b) j) (c e b).1 (c e b).2 h;exact ND
inductive ej:Ex->Prop
 |mk {e:Ex} (h:fB e) (hk:∀x∈e.kids,ej x):ej e
def eX(fn:Nat->PR Ex)(d:Rd)(lo:Nat):Prop:=∀a c b,lo<=a->a<d.ts.length->fn a=.ok c b->ej c/\cP c+a<=b/\a<b/\b<d.ts.length
def eX.up{fn:Nat->PR Ex}{lo a:Nat}(f:eX fn r lo)(b:lo<=a):eX fn r a:=fun h e d c=>f h e d (Nat.le_trans b c)
def psz(a:Nat)(p:eo):Nat:=cQ p.val+if a=8 then ct p.ty else 0
def ot(a:Nat):List eo->Nat
 |[]=>0
 |p::b=>psz a p+ot a b
def QG{l a:List eo}(f:l.Perm a):ot v l=ot v a:=by
 induction f with
 |nil=>rfl
 |cons e _ b=>simp only[ot,b]
 |swap e h l=>simp only[ot];omega
 |trans _ _ d c=>rw[d,c]
def zw(d:Nat)(a b:List eo):ot d (a++b)=ot d a+ot d b:=by
 induction a with
 |nil=>simp[ot]
 |cons e a c=>simp only[agK,ot,c];omega
structure sY (k:Nat) (l:List eo):Prop where
 name:∀x∈l,cK x.n=true
 var:∀x∈l,if k=13 then cK x.v=true else x.v=[]
 ty:∀x∈l,if k=8 then ft x.ty else x.ty=cV/\x.tV=false
 val:∀x∈l,∀e∈x.val,ej e
 one:∀x∈l,x.val.length=if k=8/\x.tV=false then 0 else 1
 nd:(l.map eo.n).Nodup
def sY.nil(a:Nat):sY a []:=⟨by simp,by simp,by simp,by simp,by simp,by simp⟩
def sY.snoc{l:List eo}{x:eo}(c:sY v l)(n:cK x.n=true)(j:if v=13 then cK x.v=true else x.v=[])(p:if v=8 then ft x.ty else x.ty=cV/\x.tV=false)(k:∀q∈x.val,ej q) 
  (o:x.val.length=if v=8/\x.tV=false then 0 else 1) (f:x.n ∉ l.map eo.n):sY v (l++[x]):=by
 have a:∀{h:eo->Prop},(∀d∈l,h d)->h x->∀d∈l++[x],h d:=fun t s d b=>by
  rcases agu.1 b with b|b
  ·exact t d b
  ·simp at b;subst b;exact s
 refine⟨a c.name n,a c.var j,a c.ty p,a c.val k,a c.one o,?_⟩;rw[agD,List.nodup_append];refine⟨c.nd,by simp,?_⟩;intro t i s e q;simp only[agz,agA,agF]at e;subst q;subst e;exact f i
def sY.perm{l e:List eo}(d:sY v l)(b:e.Perm l):sY v e:=
 ⟨fun c a=>d.name c (b.mem_iff.1 a),fun c a=>d.var c (b.mem_iff.1 a),fun c a=>d.ty c (b.mem_iff.1 a),fun c a=>d.val c (b.mem_iff.1 a),fun c a=>d.one c (b.mem_iff.1 a),((b.map eo.n).nodup_iff).2 d.nd⟩
def sY.Ue{l:List eo}(d:sY v l)(e:mw eo.n l):k8 v (l.map eo.FH):=by
 refine⟨fun f b=>?_,?_,fun f b=>?_,fun f b=>?_⟩
 ·obtain⟨c,a,rfl⟩:=agH.1 b;exact d.name c a
 ·exact List.pairwise_map.2 e
 ·obtain⟨c,a,rfl⟩:=agH.1 b;exact d.var c a
 ·obtain⟨c,a,rfl⟩:=agH.1 b;exact d.ty c a
def QH{l:List eo}(i:∀a∈l,a.val.length=if v=8/\a.tV=false then 0 else 1):(l.flatMap eo.val).length=if v=8 then zv (l.map eo.FH)else l.length:=by
 induction l with
 |nil=>split<;>rfl
 |cons a l c=>
  have f:=i a sm;have d:=c fun j e=>i j (by simp[e]);rw[List.flatMap_cons,agp,f,d];by_cases b:v=8
  ·simp only[b,true_and,if_true];show _=(List.filter lK.tV (a.FH::agw eo.FH l)).length;rw[List.filter_cons,zv];have h:a.FH.tV=a.tV:=rfl;rw[h];cases a.tV<;>simp<;>omega
  ·simp only[b,false_and,if_false,agn];omega
def sY.size(c:Nat)(l:List eo):cy (if c=8 then(l.map eo.FH).map lK.ty else [])+cQ (l.flatMap eo.val)=ot c l:=by
 induction l with
 |nil=>split<;>simp[cy,cQ,ot]
 |cons d l b=>
  rw[List.flatMap_cons,nH,ot,psz,<-b];by_cases a:c=8
  ·simp only[a,if_true,agz,cy];show ct d.ty+_+_=_;omega
  ·simp only[a,if_false,cy];omega
def xQ{k:Nat}{n:cq}{types:List Ty}{kids:List Ex}{l:List eo}:cP (kq k n types kids l)=1+cy types+cQ kids+ot k l:=by
 rw[kq,cP,ga,nH];have a:=sY.size k (cG eo.n l);rw[QG (dE l)]at a;omega
def Aw{n:cq}{types:List Ty}{kids:List Ex}{l:List eo}(e:sY v l)(b:∀a∈kids,ej a):∀a∈(kq v n types kids l).kids,ej a:=by
 intro a hx;rcases agu.1 hx with hx|hx
 ·exact b a hx
 ·obtain⟨d,c,hx⟩:=List.mem_flatMap.1 hx;exact(e.perm (dE l)).val d c a hx
def Ax{l:List eo}(a:sY v l):k8 v ((cG eo.n l).map eo.FH):=(a.perm (dE l)).Ue (iG a.nd)
def DD{l:List eo}(a:sY v l):((cG eo.n l).flatMap eo.val).length=if v=8 then zv ((cG eo.n l).map eo.FH)else((cG eo.n l).map eo.FH).length:=by
 rw[QH (a.perm (dE l)).one,agq]
def QI{f:Type}{step:f->Nat->PR f}(C:r.Wf){lo:Nat}{I:f->Nat->Prop}(k:∀e a c,I e a->a<=c->I e c)(x:∀e a b c,lo<=a->a<r.ts.length->I e a->step e a=.ok b c->I b c/\a<c/\c<r.ts.length):
  ∀(o:Nat) (e:f) (a:Nat) (b:f) (c:Nat),lo<=a->a<r.ts.length->I e a->ji step r G o e a=.ok b c->I b c/\a<c/\c<r.ts.length:=by
 intro o;induction o with
 |zero=>intro e a b c _ _ _ d;cases d
 |succ o B=>
  intro e a b c q p t d;rw[ji]at d;cases i:step e a with
  |bad K S=>rw[i]at d;cases d
  |ok l q1=>
   rw[i]at d;dsimp only at d;obtain⟨j,P,n⟩:=x e a l q1 q p t i;split at d
   ·rename_i s;cases d;exact⟨k _ _ _ j (Nat.le_succ _),om,C.step n s⟩
   ·cases h:cu r [[44]] q1 with
    |bad K S=>rw[h]at d;cases d
    |ok V q2=>
     rw[h]at d;dsimp only at d;have R:=cL _ _ _ h;obtain⟨y,D,w⟩:=B l q2 b c om (da C _ _ _ n h) (k _ _ _ j om) d;exact⟨y,om,w⟩
def v8{b:Type}{step:b->Nat->PR b}(l:r.Wf){lo:Nat}{I:b->Nat->Prop}(d:∀c p v,I c p->p<=v->I c v)(k:∀c p a v,lo<=p->p<r.ts.length->I c p->step c p=.ok a v->I a v/\p<v/\v<r.ts.length) 
  {c:b} {p:Nat} {a:b} (j:lo<=p) (f:p<r.ts.length) (e:I c p) (h:gA step r G c p=.ok a v):I a v/\p<v/\v<r.ts.length:=by
 rw[gA]at h;split at h
 ·rename_i i;cases h;exact⟨d _ _ _ e (Nat.le_succ _),om,l.step f i⟩
 ·exact QI l d k _ c p a v j f e h
def kv(h:r.Wf){s:cq}{p b:Nat}{f:Unit}(d:p<r.ts.length)(a:cu r [s] p=.ok f b):b=p+1/\b<r.ts.length/\c5 (r.tok p) s=true:=by
 have c:=da h _ _ _ d a;rw[cu]at a;split at a
 ·rename_i e;cases a;exact⟨rfl,c,e⟩
 ·cases a
def mH(k:r.Wf){lo:Nat}(f:eX g r lo){s:cq}{p c:Nat}(j:lo<=p)(h:p<r.ts.length)(e:fj g r s p=.ok M c):ej M/\cP M+p+1<=c/\p<c/\c<r.ts.length:=by
 rw[fj]at e;cases b:cu r [s] p with
 |bad q t=>rw[b]at e;cases e
 |ok l q1=>
  rw[b]at e;obtain⟨rfl,i,_⟩:=kv k h b;obtain⟨a,n,o,d⟩:=f _ M c om i e;exact ND
def qe(f:r.Wf)(e:r.Nm){p d:Nat}{s:cq}(b:p<r.ts.length)(c:dh r p=.ok s d):cK s=true/\d=p+1/\d<r.ts.length:=by
 rw[dh]at c;split at c
 ·cases c
 ·rename_i a;have a:(r.tok p).kind=1:=by simpa using a
  cases c;exact⟨(e p b).1 a,Z,f.go p _ (b0 b) om⟩
def Ay(h:r.Wf)(e:r.Nm){p d:Nat}{s:cq}(c:p<r.ts.length)(b:eJ r X p=.ok s d):cK s=true/\s ∉ X.map eo.n/\d=p+1/\d<r.ts.length:=by
 rw[eJ]at b;split at b
 ·cases b
 ·rename_i a;have a:(r.tok p).kind=1:=by simpa using a
  split at b
  ·cases b
  ·rename_i f;cases b;exact⟨(e p c).1 a,f,Z,h.go p _ (b0 c) om⟩
def PI(b a:Nat)(l:List eo)(p:Nat):Prop:=sY b l/\ot b l+a<=p
def PI.mono(d:List eo)(p b:Nat)(c:PI v O d p)(a:p<=b):PI v O d b:=⟨c.1,Nat.le_trans c.2 a⟩
def MP(x:r.Wf)(q:r.Nm){lo i h:Nat}(a:i≠8)(d:i≠13)(t:eX g r lo)(l:List eo)(p:Nat)(e:List eo)(j:Nat)(y:lo<=p)(k:p<r.ts.length)(f:PI i h l p)(c:lP g r l p=.ok e j):PI i h e j/\p<j/\j<r.ts.length:=by
 rw[lP]at c;cases b:eJ r l p with
 |bad D K=>rw[b]at c;cases c
 |ok s q1=>
  rw[b]at c;dsimp only at c;obtain⟨f1,f2,rfl,f4⟩:=Ay x q k b;obtain⟨I,o,rfl⟩:=fH c;obtain⟨w,C,B,n⟩:=mH x t om f4 o;refine⟨⟨f.1.snoc f1 (by rw[if_neg d]) (by rw[if_neg a];exact⟨rfl,rfl⟩) (by simpa using w) (by simp[a]) f2,?_⟩,om,n⟩;have:=f.2;rw[zw,ot,ot,psz,if_neg a,cQ,cQ];omega
def MQ(x:r.Wf)(f:r.Nm){lo h:Nat}(q:eX g r lo)(k:List eo)(p:Nat)(d:List eo)(i:Nat)(B:lo<=p)(j:p<r.ts.length)(e:PI 13 h k p)(a:kJ g r k p=.ok d i):PI 13 h d i/\p<i/\i<r.ts.length:=by
 rw[kJ]at a;cases c:eJ r k p with
 |bad y I=>rw[c]at a;cases a
 |ok s q1=>
  rw[c]at a;dsimp only at a;obtain⟨f1,f2,rfl,f4⟩:=Ay x f j c;cases b:dh r (p+1)with
  |bad y I=>rw[b]at a;cases a
  |ok K q2=>
   rw[b]at a;dsimp only at a;obtain⟨w,rfl,l⟩:=qe x f f4 b;obtain⟨P,o,rfl⟩:=fH a;obtain⟨t,D,C,n⟩:=mH x q om l o;refine⟨⟨e.1.snoc f1 (by rw[if_pos rfl];exact w) (by rw[if_neg dc];exact⟨rfl,rfl⟩) (by simpa using t) sm f2,?_⟩,om,n⟩;have:=e.2;rw[zw,ot,ot,psz,if_neg dc,cQ,cQ];omega
def MR(C:r.Wf)(w:r.Nm){lo i:Nat}(l:Good m r lo)(x:eX g r lo)(k:List eo)(p:Nat)(f:List eo)(h:Nat)(R:lo<=p)(j:p<r.ts.length)(c:PI 8 i k p)(a:jW m g r k p=.ok f h):PI 8 i f h/\p<h/\h<r.ts.length:=by
 rw[jW]at a;cases d:eJ r k p with
 |bad D K=>rw[d]at a;cases a
 |ok s q1=>
  rw[d]at a;dsimp only at a;obtain⟨f1,f2,rfl,f4⟩:=Ay C w j d;cases b:cu r [[58]] (p+1)with
  |bad D K=>rw[b]at a;cases a
  |ok u q2=>
   rw[b]at a;dsimp only at a;obtain⟨rfl,n,_⟩:=kv C f4 b;cases e:m (p+1+1)with
   |bad D K=>rw[e]at a;cases a
   |ok y q3=>
    rw[e]at a;dsimp only at a;obtain⟨t1,t2,t3,t4⟩:=l _ y q3 om n e;have I:=c.2;split at a
    ·rename_i o;obtain⟨P,t,rfl⟩:=fH a;obtain⟨B,V,S,q⟩:=x _ P h om (C.step t4 o) t;refine⟨⟨c.1.snoc f1 (by rw[if_neg dc]) (by rw[if_pos rfl];exact t1) (by simpa using B) sm f2,?_⟩,om,q⟩;rw[zw,ot,ot,psz,if_pos rfl,cQ,cQ];show _+(_+ct y+_)+_<=_;omega
    ·cases a;refine⟨⟨c.1.snoc f1 (by rw[if_neg dc]) (by rw[if_pos rfl];exact t1) sm sm f2,?_⟩,om,t4⟩;rw[zw,ot,ot,psz,if_pos rfl,cQ];show _+(_+ct y+_)+_<=_;omega
def Bg(x:r.Wf)(s:r.Nm){lo k:Nat}(d:k≠8)(b:k≠13)(t:eX g r lo){kids:List Ex}{p e:Nat}(i:∀M∈kids,ej M)(j:lo<=p)(h:p<r.ts.length) 
  (q:∀f,k8 k f->∀c:List Ex,c.length=f.length->fB (.mk k [] [] [] 0 [] f (kids++c))) (w:jP g r G k kids p=.ok M e):ej M/\cP M+p<=1+cQ kids+e/\p<e/\e<r.ts.length:=by
 rw[jP]at w;obtain⟨f,l,rfl⟩:=fH w;obtain⟨⟨a,y⟩,n,o⟩:=v8 (I:=PI k p) x PI.mono (MP x s d b t) j h ⟨sY.nil k,by rw[ot];omega⟩ l;refine⟨.mk ?_ (Aw a i),?_,n,o⟩
 ·exact q _ (Ax a) _ (by rw[DD a,if_neg d])
 ·rw[xQ,cy];omega
def DI{k:Nat}(d:k≠16)(h:k≠8){x n a s:cq}{b t:Int}{l:Bool}(i:eR L E)(f:L.length<4294967296)(q:v<4:=by decide):
  b4 C ca wV [Ua k x n a b z E J,fm s t l (agm v)] [] fun w e=>e=[]/\w=.ret (b5 (v+L.length)):=by
 have p:decide (agm k=16)=false:=decide_eq_false fun j=>d (by simp only[agx]at j;omega);have y:decide (agm k=8)=false:=decide_eq_false fun j=>h (by simp only[agx]at j;omega);refine cm ?_;have o:decide (agm v<0)=false:=decide_eq_false (by simp only[agx];omega);repeat refine de ?_
 cases i with
 |nil=>exact a8 0 ⟨rfl,congrArg (fun a=>cO.ret (V.d (D.int .i64 a))) (c4 (b:=0) om)⟩
 |ps B=>
  have c:=B.len;exact a8 0 ⟨Z,congrArg (fun a=>cO.ret (V.d (D.int .i64 a))) ((c4 om).trans (by rw[c]))⟩
def AB{l:List lK}(a:v<l.length):zv (l.take (v+1))=zv (l.take v)+if l[v].tV then 1 else 0:=by
 rw[List.take_add_one,agy a,zv,zv,List.filter_append,agp];simp only[agP,List.filter_cons,List.filter_nil];split<;>simp
def HQ(l:List lK):zv l<=l.length:=List.length_filter_le _ _
variable{F:Int}
def QS{K n I s:cq}{f t:Int}{l:Bool}(x:eR L E)(w:L.length<4294967296):
  b4 C ca wV [Ua 8 K n I f z E J,fm s t l F] [] fun R k=>k=[]/\R=.ret (b5 (zv L+1)):=by
 refine cm ?_;cases x with
 |nil=>
  exact oy
 |ps P=>
  rename_i y q d e;have i:=P.len;refine cd.less (dB:=[(5,b5 1),(20,.d (.ps y q 8 d e)),(21,b5 L.length),(22,b5 0)]) ⟨Z,Z,int_eq (by rw[i]),Z,tv⟩ ?_;refine cd.iter (fun c:Nat=>[(5,b5 (zv (L.take c)+1)),(20,.d (.ps y q 8 d e)),(21,b5 L.length),(22,b5 c)]) (fun _=>[.box (ky 8 K n I f z (.ps y q 8 d e) J),.box [cn s,.d (.int .i64 t),b6 l,.d (.int .i64 F)]]) (fun c=>L.length-c) (fun c=>c<=L.length) ?_ 0 (agt _);intro c m;apply aZ<;>intro p
  ·have a:c<L.length:=ee p;obtain⟨u,B,o⟩:=P.get a;obtain⟨S,r,tn,V,g,rfl⟩:=o.cZ;have b:=AB a;have h:=HQ (L.take c);rw[List.length_take]at h;refine bZ Z ?_;refine cc _ (by rw[ck];exact B) ?_;apply aZ<;>intro j
   ·rw[j]at b;refine⟨c+1,a,iK,.drop 2 ⟨int_eq ?_,Z,Z,int_eq (cp om),tv⟩ Z Z Z Z Z Z Z,Z,Z⟩;rw[b];exact cp om
   ·rw[j]at b;refine⟨c+1,a,iK,.drop 2 ⟨int_eq ?_,Z,Z,int_eq (cp om),tv⟩ Z Z Z Z Z Z Z,Z,Z⟩;rw[b];rfl
  ·have a:L.length<=c:=dq p;rw[agr a];exact a8 0 ⟨Z,Z⟩
def ry{a b:Nat}(c:a=b):(!decide (agm a=agm b))=false:=by simp[c]
def WX (a:W:=by
 rcases hl.inv with⟨_,rfl⟩|⟨b,o,c,els,rfl,hll⟩;all_goals
  rcases hk.inv with⟨hke,rfl⟩|⟨b2,o2,c2,my,rfl,hkl⟩
  ·subst hke;have ZW:0=_:=ZW;have hN:=ry ZW;have hN':(!decide ((0:Int)=Int.ofNat _))=false:=hN;repeat' first|(change jR _ _ _;first|refine cg (by with_reducible assumption) ?_|refine a7 (by with_reducible assumption) ?_|refine aZ (fun _=>?_) (fun _=>?_))|refine dx (args:=[.str _,.str _]) (x:=.bool true) rfl rfl ?_|refine dx (args:=[.str _,.str _]) (x:=.bool false) rfl rfl ?_|refine fin ?_|(show b4 C ca lg _ _ _;refine cj ?_)
   all_goals first|exact a8 0 ⟨rfl,rfl⟩|(exact absurd ZW om)
  ·have hN:=ry (hkl.len.trans ZW);repeat' first|(change jR _ _ _;first|refine cg (by with_reducible assumption) ?_|refine a7 (by with_reducible assumption) ?_|refine aZ (fun _=>?_) (fun _=>?_))|refine dx (args:=[.str _,.str _]) (x:=.bool true) rfl rfl ?_|refine dx (args:=[.str _,.str _]) (x:=.bool false) rfl rfl ?_|refine fin ?_|(show b4 C ca lg _ _ _;refine cj ?_)
   all_goals exact a8 0 ⟨rfl,rfl⟩):W:=a
def aao (a:W:=by
 refine cm ?_;repeat' first|(change jR _ _ _;first|refine cg (by with_reducible assumption) ?_|refine a7 (by with_reducible assumption) ?_|refine aZ (fun _=>?_) (fun _=>?_))|refine dx (args:=[.str _,.str _]) (x:=.bool true) rfl rfl ?_|refine dx (args:=[.str _,.str _]) (x:=.bool false) rfl rfl ?_|refine sX hd ?_|refine zu hd (fun _=>?_)|(show b4 C ca lg _ _ _;refine cj ?_)
 all_goals exact a8 3 hk):W:=a
def Kv(e:Nat)(b c a:D)(d:cq)(t:Int)(l:Bool)(f:Int):VS:=[.box (ky e [] [] [] 0 b c a),.box [cn d,.d (.int .i64 t),b6 l,.d (.int .i64 f)],.box [.fn lg [] [.bp 1 0]]]
def Up{labels:List lK}{kids:List Ex}(hl:eR labels z)(hlen:labels.length<4294967296)(hw:k8 5 labels)(hk:fR kids E)(ZW:kids.length=0+labels.length):gy 5 [] [] [] 0 .ci z E (fm [] 0 true 0):=by
 have fin:∀{K:cO->VS->Prop},K (.ret (b6 false)) (Kv 5 .ci z E [] 0 true 0)->b4 C ca dN [.d z,.fn lh [] [.bp 2 0]] (Kv 5 .ci z E [] 0 true 0) K:=by
  intro K hK;exact Nq
 unfold gy;refine cm ?_;refine cC (DI (k:=5) dc dc hl hlen) Z Z ?_;exact WX
def QT{labels:List lK}{kids:List Ex}(hl:eR labels z)(hlen:labels.length<4294967296)(hw:k8 9 labels)(hk:fR kids E)(ZW:kids.length=1+labels.length):gy 9 [] [] [] 0 .ci z E (fm [] 0 true 1):=by
 have fin:∀{K:cO->VS->Prop},K (.ret (b6 false)) (Kv 9 .ci z E [] 0 true 1)->b4 C ca dN [.d z,.fn lh [] [.bp 2 0]] (Kv 9 .ci z E [] 0 true 1) K:=by
  intro K hK;exact Nq
 unfold gy;refine cm ?_;refine cC (DI (k:=9) dc dc hl hlen) Z Z ?_;exact WX
def Uq{t:Ty}(n:fA [t] z){kids:List Ex}(hl:eR L E)(a:L.length<4294967296)(i:k8 13 L)(hk:fR kids J)(ZW:kids.length=1+L.length):gy 13 [] [] [] 0 z E J (fm [118] 1 true 1):=by
 obtain⟨h,k,f,d9,rfl⟩:=n.nN;have fin:∀{l:cO->VS->Prop},l (.ret (b6 false)) (Kv 13 (.ps h k 5 f [d9]) E J [118] 1 true 1)->b4 C ca dN [.d E,.fn lh [] [.bp 2 0]] (Kv 13 (.ps h k 5 f [d9]) E J [118] 1 true 1) l:=by
  intro l p;refine oZ Z _ L hl a (fun s j B hd l hk=>?_) p;have e:=i.var _ (ags j);have d:=i.ty _ (ags j);generalize L[s]=P at e d hd;obtain⟨I,K,y,w⟩:=P;simp at e d;obtain⟨rfl,rfl⟩:=d;have q:=WR e;have hd:eZ cV B:=hd;rcases w9 hd with rfl|⟨b,o,c,rfl⟩;all_goals exact aao
 unfold gy;refine cm ?_;refine cC (DI (k:=13) dc dc hl a) Z Z ?_;exact WX
def QU{kids:List Ex}(hl:eR L z)(a:L.length<4294967296)(f:k8 8 L)(hk:fR kids E)(ZW:kids.length=zv L+1):gy 8 [] [] [] 0 .ci z E (fm [116,111] 0 true 1):=by
 have fin:∀{i:cO->VS->Prop},i (.ret (b6 false)) (Kv 8 .ci z E [116,111] 0 true 1)->b4 C ca dN [.d z,.fn lh [] [.bp 2 0]] (Kv 8 .ci z E [116,111] 0 true 1) i:=by
  intro i j;refine oZ Z _ L hl a (fun k h I hd i hk=>?_) j;have d:=f.var _ (ags h);have e:=f.ty _ (ags h);generalize L[k]=B at d e hd;obtain⟨t,w,p,y⟩:=B;simp at d e;subst d;obtain⟨l,s,tn,n,q,rfl⟩:=hd.cZ;exact aao
 unfold gy;refine cm ?_;refine cC (QS hl a) Z Z ?_;exact WX
section
variable{γ δ:Type} (step:γ->Ex->γ ⊕ δ)
mutual
def jj:Ex->γ->γ ⊕ δ
 |.mk k m n x num types labels kids,g=>match step g (.mk k m n x num types labels kids)with
  |.inr s=>.inr s
  |.inl g'=>fx kids g'
def fx:List Ex->γ->γ ⊕ δ
 |[],g=>.inl g
 |e::l,g=>match jj e g with
  |.inr s=>.inr s
  |.inl g'=>fx l g'
end
def ou(a:Ex)(c:γ):jj step a c=match step c a with
  |.inr s=>.inr s
  |.inl b=>fx step a.kids b:=by cases a;rw[jj];rfl
def DG(d b:List Ex)(c:γ):fx step (d++b) c=match fx step d c with
  |.inr s=>.inr s
  |.inl a=>fx step b a:=by
 induction d generalizing c with
 |nil=>rfl
 |cons f d e=>
  simp only[agK,fx];cases jj step f c with
  |inr s=>rfl
  |inl a=>exact e a
def vm{l:List Ex}{b a:γ}(d:v<l.length)(c:fx step (l.take v) b=.inl a):fx step (l.take (v+1)) b=jj step l[v] a:=by
 rw[List.take_add_one,agy d,DG,c];simp only[agP,fx];cases jj step l[v] a<;>rfl
def vn{l:List Ex}{a:γ}{c:δ}(b:fx step (l.take v) a=.inr c):fx step l a=.inr c:=by
 have:=DG step (l.take v) (l.drop v) a;rw[List.take_append_drop,b]at this;exact this
variable{step}
def OF{e:γ->Nat}(w:∀c d a,step c d=.inl a->e a<=e c+(1+cy (k7 d))):∀(d:Ex) (c a:γ),jj step d c=.inl a->e a<=e c+cP d:=by
 have l:∀(n:Nat) (d:Ex) (c a:γ),cP d<=n->jj step d c=.inl a->e a<=e c+cP d:=by
  intro n;induction n with
  |zero=>intro d c a q;have:=gP d;omega
  |succ n t=>
   intro d c a q b;have y:=fJ d;rw[ou]at b;cases f:step c d with
   |inr s=>rw[f]at b;cases b
   |inl o=>
    rw[f]at b;have D:=w _ _ _ f;have:∀(i:List Ex) (c a:γ),cQ i<=n->fx step i c=.inl a->e a<=e c+cQ i:=by
     intro i;induction i with
     |nil=>intro c a _ q;cases q;exact agk _
     |cons x i k=>
      intro c a p b;rw[fx]at b;rw[cQ]at p⊢;cases h:jj step x c with
      |inr s=>rw[h]at b;cases b
      |inl j=>
       rw[h]at b;have B:=t x c j om h;have I:=k j a om b;omega
    have C:=this d.kids o a om b;omega
 intro d c a;exact l _ d c a (agk _)
end
def Ca(n:Nat)(a:VS)(b:VS)(c:a.length=n):Nat.ble n (a++b).length=true:=by
 rw[agB,agp,c];exact agI _ _
def Ku(n:Nat)(a:VS)(o:cN)(b:VS)(c:a.length+1=n):Nat.ble n (a++o::b).length=true:=by
 rw[agB,agp,agn];omega
def FU(a:VS)(o:cN)(b:VS){n:Nat}(c:a.length+1=n):(a++o::b).take n=a++[o]:=by
 subst c;rw[List.take_append,agr om];simp
def WU:∀{c:Nat} {a b:VS},a.length=c->mJ v (a++b) c=mJ v a c:=by
 intro c;induction c with
 |zero=>intro a b _;rw[mJ,mJ]
 |succ c d=>
  intro a b e;cases a with
  |nil=>cases e
  |cons f a=>
   simp only[agK,mJ];rw[d (by simpa using e)]
def vo{c n:Nat}{a:VS}(d:mJ c H n=true)(b:H.length=n):mJ c (H++a) n=true:=by rw[WU b,d]
structure Ob3 where
 (o0 o1 o2:cN)
 L:ki
def W3(a:Ob3):VS:=[a.o0,a.o1,a.o2,.eI false,.loop a.L,.box [.tR 4],.box [.fn eA [] [.bp 5 0,.bp 6 0]]]
def WV{γ δ:Type}{step:γ->Ex->γ ⊕ δ}{w:γ->Nat}{Good:Ex->Prop}{t:γ ⊕ δ->Ob3} 
  (U:∀a,Good a->∀k∈a.kids,Good k) (q:∀k,mJ 7 (W3 (t k)) 7=true) (v:∀k l j,fu 0 l=true->mJ 8 (W3 (t k)++.box l::j) 8=true)
  (ad:∀e a B,step e a=.inl B->w B<=w e+(1+cy (k7 a)))
  (ao:∀(e:γ) (a:Ex) (K:cH) (l:List V) (al:cO->VS->Prop),je a K->Good a->fu 0 l=true->w e+cP a<4294967296->(∀B,step e a=.inl B->∀j,al (.ret (b6 true)) (W3 (t (.inl B))++.box l::j))->(∀s,step e a=.inr s->∀j,al (.ret (b6 false)) (W3 (t (.inr s))++.box l::j))->
   iA C ca 4 [.agg (K.map V.d)] (W3 (t (.inl e))++[.box l]) al) (n:Nat)
  (ar:∀(a:Ex) (K:cH) (e:γ),cP a<=n->je a K->Good a->w e+cP a<4294967296->b4 C ca eA [.agg (K.map V.d),.bp 5 0,.bp 6 0] (W3 (t (.inl e))) fun ah p=>∃k,jj step a e=k/\p=W3 (t k)/\ah=.ret (b6 k.isLeft))
  (a:Ex) (K:cH) (e:γ) (aC:cP a<=n+1) (E:je a K) (m:Good a) (N:w e+cP a<4294967296):
  b4 C ca eA [.agg (K.map V.d),.bp 5 0,.bp 6 0] (W3 (t (.inl e))) fun ah p=>∃k,jj step a e=k/\p=W3 (t k)/\ah=.ret (b6 k.isLeft):=by
 obtain⟨ai,aj,I,P,o,R,g,an,rfl⟩:=E.eight;have ax:=fJ a;refine cm ?_;refine ao e a _ (ky ai aj I P o R g an) _ E m Z N (fun d S j=>?_) (fun s S j=>?_)
 ·have T:=E.abh.1;have av:=ad e a d S;have D:=U a m;have ae:jj step a e=fx step a.kids d:=by rw[ou,S]
  rw[ae];have J:cQ a.kids<=n:=om;have aa:w d+cQ a.kids<4294967296:=om;generalize a.kids=b at T J aa D;have au:=ju b;cases T with
  |nil=>
   refine cd.loop ?_;refine cU.drop 7 (Ca 7 _ _ Z) (vo (q _) Z) Z ?_;exact cU.now Z ⟨_,Z,Z,Z⟩
  |ps ak=>
   rename_i X M f i;have Q:=ak.len;refine cw (dB:=[(12,.d (.ps X M 8 f i)),(13,b5 b.length),(14,b5 0),(2,.bp 6 0)]) (fU:=W3 (t (.inl d))++[.box (ky ai aj I P o R g (.ps X M 8 f i))]) (.drop 8 ⟨Z,int_eq (by rw[Q]),Z,Z,tv⟩ (Ku 8 _ _ _ Z) Z (v _ _ _ Z) Z Z Z (by exact FU _ _ _ rfl)) ?_;refine cd.iter (fun x:Nat×γ=>[(12,.d (.ps X M 8 f i)),(13,b5 b.length),(14,b5 x.1),(2,.bp 6 0)]) (fun x=>W3 (t (.inl x.2))++[.box (ky ai aj I P o R g (.ps X M 8 f i))]) (fun x=>b.length-x.1) (fun x=>x.1<=b.length/\fx step (b.take x.1) d=.inl x.2/\w x.2<=w d+cQ (b.take x.1)) ?_ (0,d) ⟨agt _,by rw[List.take_zero];rfl,agI _ _⟩;rintro⟨A,F⟩ ⟨Y,h,u⟩;have Y:A<=b.length:=Y;have h:fx step (b.take A) d=.inl F:=h;have u:w F<=w d+cQ (b.take A):=u;apply aZ<;>intro af
   ·have c:A<b.length:=ee af;obtain⟨K,ap,z⟩:=ak.get c;refine bZ Z ?_;obtain⟨aq,am,O,W,G,ac,ab,H,rfl⟩:=z.eight;refine cc _ (by rw[ck];exact ap) ?_;have aA:=j7 (ags c);have L:=tU c;have aw:=py b (A+1);refine(ar b[A] _ F om z (D _ (ags c)) om).pre [.box (ky ai aj I P o R g (.ps X M 8 f i)),.box (ky aq am O W G ac ab H)] (q _) Z (fun ah p ak=>?_);obtain⟨k,r,rfl,rfl⟩:=ak;refine⟨Z,q _,Z,?_⟩;have y:=vm step c h;rw[r]at y;cases k with
    |inl ag=>
     have aB:=OF ad _ _ _ r;refine⟨(A+1,ag),⟨c,y,by show w ag<=_;rw[L];omega⟩,iK,.drop 8 ⟨Z,Z,int_eq (cp om),Z,tv⟩ Z Z (v _ _ _ Z) Z Z Z Z,Z,Z⟩
    |inr s=>
     refine cU.drop 7 Z (vo (q _) Z) Z ?_;refine cU.now Z ⟨.inr s,?_,Z,Z⟩;exact vn step y
   ·have c:b.length<=A:=dq af;rw[agr c]at h;refine cU.drop 7 Z (vo (q _) Z) Z ?_;exact cU.now Z ⟨_,h,Z,Z⟩
 ·refine cU.drop 7 (Ca 7 _ _ Z) (vo (q _) Z) Z ?_;exact cU.now Z ⟨.inr s,by rw[ou,S],Z,Z⟩
def abj{γ δ:Type}{step:γ->Ex->γ ⊕ δ}{B:γ->Nat}{Good:Ex->Prop}{S:γ ⊕ δ->Ob3} 
  (i:∀a,Good a->∀f∈a.kids,Good f) (p:∀f,mJ 7 (W3 (S f)) 7=true) (l:∀f b d,fu 0 b=true->mJ 8 (W3 (S f)++.box b::d) 8=true)
  (y:∀c a e,step c a=.inl e->B e<=B c+(1+cy (k7 a)))
  (t:∀(c:γ) (a:Ex) (h:cH) (b:List V) (n:cO->VS->Prop),je a h->Good a->fu 0 b=true->B c+cP a<4294967296->(∀e,step c a=.inl e->∀d,n (.ret (b6 true)) (W3 (S (.inl e))++.box b::d))->(∀D,step c a=.inr D->∀d,n (.ret (b6 false)) (W3 (S (.inr D))++.box b::d))->
   iA C ca 4 [.agg (h.map V.d)] (W3 (S (.inl c))++[.box b]) n):
  ∀(j:Nat) (a:Ex) (h:cH) (c:γ),cP a<=j->je a h->Good a->B c+cP a<4294967296->b4 C ca eA [.agg (h.map V.d),.bp 5 0,.bp 6 0] (W3 (S (.inl c))) fun I k=>∃f,jj step a c=f/\k=W3 (S f)/\I=.ret (b6 f.isLeft):=by
 intro j;induction j with
 |zero=>intro a h c K;have:=gP a;omega
 |succ j x=>intro a h c s o w q;exact WV i p l y t j x a h c s o w q
structure Ob5 where
 (o0 o1 o2 o3 o4:cN)
 L:ki
def W5(a:Ob5):VS:=[a.o0,a.o1,a.o2,a.o3,a.o4,.eI false,.loop a.L,.box [.tR 6],.box [.fn eA [] [.bp 7 0,.bp 8 0]]]
def WW{γ δ:Type}{step:γ->Ex->γ ⊕ δ}{w:γ->Nat}{Good:Ex->Prop}{t:γ ⊕ δ->Ob5} 
  (U:∀a,Good a->∀k∈a.kids,Good k) (q:∀k,mJ 9 (W5 (t k)) 9=true) (v:∀k l j,fu 0 l=true->mJ 10 (W5 (t k)++.box l::j) 10=true)
  (ad:∀e a B,step e a=.inl B->w B<=w e+(1+cy (k7 a)))
  (ao:∀(e:γ) (a:Ex) (K:cH) (l:List V) (al:cO->VS->Prop),je a K->Good a->fu 0 l=true->w e+cP a<4294967296->(∀B,step e a=.inl B->∀j,al (.ret (b6 true)) (W5 (t (.inl B))++.box l::j))->(∀s,step e a=.inr s->∀j,al (.ret (b6 false)) (W5 (t (.inr s))++.box l::j))->
   iA C ca 6 [.agg (K.map V.d)] (W5 (t (.inl e))++[.box l]) al) (n:Nat)
  (ar:∀(a:Ex) (K:cH) (e:γ),cP a<=n->je a K->Good a->w e+cP a<4294967296->b4 C ca eA [.agg (K.map V.d),.bp 7 0,.bp 8 0] (W5 (t (.inl e))) fun ah p=>∃k,jj step a e=k/\p=W5 (t k)/\ah=.ret (b6 k.isLeft))
  (a:Ex) (K:cH) (e:γ) (aC:cP a<=n+1) (E:je a K) (m:Good a) (N:w e+cP a<4294967296):
  b4 C ca eA [.agg (K.map V.d),.bp 7 0,.bp 8 0] (W5 (t (.inl e))) fun ah p=>∃k,jj step a e=k/\p=W5 (t k)/\ah=.ret (b6 k.isLeft):=by
 obtain⟨ai,aj,I,P,o,R,g,an,rfl⟩:=E.eight;have ax:=fJ a;refine cm ?_;refine ao e a _ (ky ai aj I P o R g an) _ E m Z N (fun d S j=>?_) (fun s S j=>?_)
 ·have T:=E.abh.1;have av:=ad e a d S;have D:=U a m;have ae:jj step a e=fx step a.kids d:=by rw[ou,S]
  rw[ae];have J:cQ a.kids<=n:=om;have aa:w d+cQ a.kids<4294967296:=om;generalize a.kids=b at T J aa D;have au:=ju b;cases T with
  |nil=>
   refine cd.loop ?_;refine cU.drop 9 (Ca 9 _ _ Z) (vo (q _) Z) Z ?_;exact cU.now Z ⟨_,Z,Z,Z⟩
  |ps ak=>
   rename_i X M f i;have Q:=ak.len;refine cw (dB:=[(12,.d (.ps X M 8 f i)),(13,b5 b.length),(14,b5 0),(2,.bp 8 0)]) (fU:=W5 (t (.inl d))++[.box (ky ai aj I P o R g (.ps X M 8 f i))]) (.drop 10 ⟨Z,int_eq (by rw[Q]),Z,Z,tv⟩ (Ku 10 _ _ _ Z) Z (v _ _ _ Z) Z Z Z (by exact FU _ _ _ rfl)) ?_;refine cd.iter (fun x:Nat×γ=>[(12,.d (.ps X M 8 f i)),(13,b5 b.length),(14,b5 x.1),(2,.bp 8 0)]) (fun x=>W5 (t (.inl x.2))++[.box (ky ai aj I P o R g (.ps X M 8 f i))]) (fun x=>b.length-x.1) (fun x=>x.1<=b.length/\fx step (b.take x.1) d=.inl x.2/\w x.2<=w d+cQ (b.take x.1)) ?_ (0,d) ⟨agt _,by rw[List.take_zero];rfl,agI _ _⟩;rintro⟨A,F⟩ ⟨Y,h,u⟩;have Y:A<=b.length:=Y;have h:fx step (b.take A) d=.inl F:=h;have u:w F<=w d+cQ (b.take A):=u;apply aZ<;>intro af
   ·have c:A<b.length:=ee af;obtain⟨K,ap,z⟩:=ak.get c;refine bZ Z ?_;obtain⟨aq,am,O,W,G,ac,ab,H,rfl⟩:=z.eight;refine cc _ (by rw[ck];exact ap) ?_;have aA:=j7 (ags c);have L:=tU c;have aw:=py b (A+1);refine(ar b[A] _ F om z (D _ (ags c)) om).pre [.box (ky ai aj I P o R g (.ps X M 8 f i)),.box (ky aq am O W G ac ab H)] (q _) Z (fun ah p ak=>?_);obtain⟨k,r,rfl,rfl⟩:=ak;refine⟨Z,q _,Z,?_⟩;have y:=vm step c h;rw[r]at y;cases k with
    |inl ag=>
     have aB:=OF ad _ _ _ r;refine⟨(A+1,ag),⟨c,y,by show w ag<=_;rw[L];omega⟩,iK,.drop 10 ⟨Z,Z,int_eq (cp om),Z,tv⟩ Z Z (v _ _ _ Z) Z Z Z Z,Z,Z⟩
    |inr s=>
     refine cU.drop 9 Z (vo (q _) Z) Z ?_;refine cU.now Z ⟨.inr s,?_,Z,Z⟩;exact vn step y
   ·have c:b.length<=A:=dq af;rw[agr c]at h;refine cU.drop 9 Z (vo (q _) Z) Z ?_;exact cU.now Z ⟨_,h,Z,Z⟩
 ·refine cU.drop 9 (Ca 9 _ _ Z) (vo (q _) Z) Z ?_;exact cU.now Z ⟨.inr s,by rw[ou,S],Z,Z⟩
def abk{γ δ:Type}{step:γ->Ex->γ ⊕ δ}{B:γ->Nat}{Good:Ex->Prop}{S:γ ⊕ δ->Ob5} 
  (i:∀a,Good a->∀f∈a.kids,Good f) (p:∀f,mJ 9 (W5 (S f)) 9=true) (l:∀f b d,fu 0 b=true->mJ 10 (W5 (S f)++.box b::d) 10=true)
  (y:∀c a e,step c a=.inl e->B e<=B c+(1+cy (k7 a)))
  (t:∀(c:γ) (a:Ex) (h:cH) (b:List V) (n:cO->VS->Prop),je a h->Good a->fu 0 b=true->B c+cP a<4294967296->(∀e,step c a=.inl e->∀d,n (.ret (b6 true)) (W5 (S (.inl e))++.box b::d))->(∀D,step c a=.inr D->∀d,n (.ret (b6 false)) (W5 (S (.inr D))++.box b::d))->
   iA C ca 6 [.agg (h.map V.d)] (W5 (S (.inl c))++[.box b]) n):
  ∀(j:Nat) (a:Ex) (h:cH) (c:γ),cP a<=j->je a h->Good a->B c+cP a<4294967296->b4 C ca eA [.agg (h.map V.d),.bp 7 0,.bp 8 0] (W5 (S (.inl c))) fun I k=>∃f,jj step a c=f/\k=W5 (S f)/\I=.ret (b6 f.isLeft):=by
 intro j;induction j with
 |zero=>intro a h c K;have:=gP a;omega
 |succ j x=>intro a h c s o w q;exact WW i p l y t j x a h c s o w q
def QP(n:cq){x a:Ex}(hl:eR [] z)(hk:fR [x,a] E):gy 10 [] n [] 0 .ci z E (fm [110] 0 false 2):=by
 exact abP
def Uk{t:Ty}(c:fA [t] z){x:Ex}(b:eR [] E)(a:fR [x] J):gy 11 [] [] [] 0 z E J (fm [] 1 false 1):=by
 unfold gy;rcases b.cS with rfl|⟨e,n,l,rfl⟩<;>obtain⟨i,k,d,d1,rfl⟩:=a.one<;>obtain⟨j,f,h,d0,rfl⟩:=c.nN<;>exact fitAll
def QQ{t:Ty}(ht:fA [t] z){x a b:Ex}(hl:eR [] E)(hk:fR [x,a,b] J):gy 12 [] [] [] 0 z E J (fm [] 1 false 3):=by
 exact Y2
def Ul{t:Ty}(b:fA [t] z){kids:List Ex}(a:eR [] E)(c:fR kids J):gy 14 [] [] [] 0 z E J (fm [] 1 false (-1)):=by
 unfold gy;rcases a.cS with rfl|⟨d,j,i,rfl⟩<;>obtain⟨h,e,f,d0,rfl⟩:=b.nN<;>exact fitAll
def QR{t:Ty}(n c:cq)(ht:fA [t] z){x a b:Ex}(hl:eR [] E)(hk:fR [x,a,b] J):gy 15 [] n c 0 z E J (fm [110,120] 1 false 3):=by
 exact Y2
def Um{n:cq}(a:n∈K9){x:Ex}(hl:eR [] z)(hk:fR [x] E):gy 16 [] n [] 0 .ci z E (fm [110] 0 false (-1)):=by
 exact VA
def Un{n:cq}(b:n∈BK){x a:Ex}(hl:eR [] z)(hk:fR [x,a] E):gy 16 [] n [] 0 .ci z E (fm [110] 0 false (-1)):=by
 exact abP
def DH(b:cK G=true)(a:u (.ret (b6 true)) H):b4 C ca uO [cn G] H u:=
 ic G (lZ b) (by rw[b];exact a)
def s5(j:Nat)(k n h:cq)(a:Int)(d e c:D)(f:V):Prop:=b4 C ca yS [Ua j k n h a d e c,f] [] fun i b=>b=[]/\i=.ret (b6 false)
def ov (a:W:=by
 have mS:=hw.name;have hvr:=hw.var;unfold s5;refine cm ?_;repeat' first|(change jR _ _ _;first|refine cg (by with_reducible assumption) ?_|refine a7 (by with_reducible assumption) ?_)|refine dx (args:=[.str _,.str _]) (x:=.bool true) rfl rfl ?_|refine dx (args:=[.str _,.str _]) (x:=.bool false) rfl rfl ?_|refine DH (by assumption) ?_|refine jf _ (by assumption) ?_|(show b4 C ca oR _ _ _;refine cj ?_)
 refine oZ Z _ labels hl hlen (fun j hj d hd K hk=>?_) ?_
 ·obtain⟨tk,tm,tn,ta,tf,rfl⟩:=hd.cZ;have hnj:=mS _ (List.getElem_mem hj);have hvj:=hvr _ (List.getElem_mem hj);simp at hvj;refine cm ?_;repeat' first|(change jR _ _ _;first|refine cg (by with_reducible assumption) ?_|refine a7 (by with_reducible assumption) ?_)|refine dx (args:=[.str _,.str _]) (x:=.bool true) rfl rfl ?_|refine dx (args:=[.str _,.str _]) (x:=.bool false) rfl rfl ?_|refine DH (by assumption) ?_|refine jf _ (by assumption) ?_|(show b4 C ca oR _ _ _;refine cj ?_)
  exact a8 3 hk
 ·exact a8 0 ⟨Z,Z⟩):W:=a
def acZ{x:cq}{labels:List lK}(hl:eR labels E)(hlen:labels.length<4294967296)(hw:k8 0 labels):s5 0 [] [] x F z E J (fm [98] 0 false 0):=by
 exact ov
def ac0{x:cq}{labels:List lK}(hl:eR labels E)(hlen:labels.length<4294967296)(hw:k8 1 labels):s5 1 [] [] x F z E J (fm [120] 0 false 0):=by
 exact ov
def ac1{x:cq}{labels:List lK}(hl:eR labels E)(hlen:labels.length<4294967296)(hw:k8 2 labels):s5 2 [] [] x F z E J (fm [98] 0 false 0):=by
 exact ov
def ac2{n x:cq}{labels:List lK}(a:cK n=true)(hl:eR labels E)(hlen:labels.length<4294967296)(hw:k8 3 labels):s5 3 [] n x F z E J (fm [110] 0 false 0):=by
 exact ov
def ac3{a n x:cq}{labels:List lK}(b:a=[]∨cK a=true)(c:cK n=true)(hl:eR labels E)(hlen:labels.length<4294967296)(hw:k8 4 labels):s5 4 a n x F z E J (fm [109,110] (-1) false 0):=by
 exact ov
def ac4{x:cq}{labels:List lK}(hl:eR labels E)(hlen:labels.length<4294967296)(hw:k8 5 labels):s5 5 [] [] x F z E J (fm [] 0 true 0):=by
 exact ov
def ac5{n x:cq}{labels:List lK}(a:cK n=true)(hl:eR labels E)(hlen:labels.length<4294967296)(hw:k8 6 labels):s5 6 [] n x F z E J (fm [110] 0 false 1):=by
 exact ov
def ac6{n x:cq}{labels:List lK}(a:cK n=true)(hl:eR labels E)(hlen:labels.length<4294967296)(hw:k8 7 labels):s5 7 [] n x F z E J (fm [110] 0 false 1):=by
 exact ov
def ac7{x:cq}{labels:List lK}(hl:eR labels E)(hlen:labels.length<4294967296)(hw:k8 8 labels):s5 8 [] [] x F z E J (fm [116,111] 0 true 1):=by
 exact ov
def ac8{x:cq}{labels:List lK}(hl:eR labels E)(hlen:labels.length<4294967296)(hw:k8 9 labels):s5 9 [] [] x F z E J (fm [] 0 true 1):=by
 exact ov
def abl{n x:cq}{labels:List lK}(a:cK n=true)(hl:eR labels E)(hlen:labels.length<4294967296)(hw:k8 10 labels):s5 10 [] n x F z E J (fm [110] 0 false 2):=by
 exact ov
def abm{x:cq}{labels:List lK}(hl:eR labels E)(hlen:labels.length<4294967296)(hw:k8 11 labels):s5 11 [] [] x F z E J (fm [] 1 false 1):=by
 exact ov
def abn{x:cq}{labels:List lK}(hl:eR labels E)(hlen:labels.length<4294967296)(hw:k8 12 labels):s5 12 [] [] x F z E J (fm [] 1 false 3):=by
 exact ov
def abo{x:cq}{labels:List lK}(hl:eR labels E)(hlen:labels.length<4294967296)(hw:k8 13 labels):s5 13 [] [] x F z E J (fm [118] 1 true 1):=by
 exact ov
def abp{x:cq}{labels:List lK}(hl:eR labels E)(hlen:labels.length<4294967296)(hw:k8 14 labels):s5 14 [] [] x F z E J (fm [] 1 false (-1)):=by
 exact ov
def abq{n x:cq}{labels:List lK}(b:cK n=true)(a:cK x=true)(hl:eR labels E)(hlen:labels.length<4294967296)(hw:k8 15 labels):s5 15 [] n x F z E J (fm [110,120] 1 false 3):=by
 exact ov
def Uo{n x:cq}{labels:List lK}(hl:eR labels E)(hlen:labels.length<4294967296)(hw:k8 16 labels):s5 16 [] n x F z E J (fm [110] 0 false (-1)):=by
 exact ov
end Go.Proofs.YtpejealjkmhkgaaGreatDoor
