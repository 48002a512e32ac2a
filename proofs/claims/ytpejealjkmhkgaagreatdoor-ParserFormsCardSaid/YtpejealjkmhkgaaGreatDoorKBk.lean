/- Part of the proof. -/
import Derived.Test.YtpejealjkmhkgaaGreatDoorKBj
set_option linter.all false
set_option maxHeartbeats 16000000
set_option maxRecDepth 100000
open List renaming mem_singleton->abK,mem_cons->abL,length_append->aet,mem_append->aeu,length_singleton->aev,not_mem_nil->aeM,getElem?_eq_getElem->aeO,map_cons->aeP,mem_map->aeR
open Nat renaming zero_le->aeN,le_trans->aeQ,le_refl->aeS
namespace Go.Proofs.YtpejealjkmhkgaaGreatDoor
open Go.AM Go.VM
abbrev lw(l:hZ)(a:cH):V:=.agg ((Ms l a).map V.d)
variable{F:List V} {r:Nat}
theorem QB(h:(C.ff.get r).isSome=true)(f:D)(a:List hZ)(p:eR a f)(L:a.length<4294967296){σ:VS} 
  (n:∀(l:Nat) (P:l<a.length) (o:cH),eZ a[l].ty o->∀{K:cO->VS->Prop},K (.ret (bX false)) σ->bV C ca r (lw a[l] o::F) σ K)
  {K:cO->VS->Prop} (j:K (.ret (.d (.int .i64 (-1)))) σ):bV C ca oC [.d f,.fn r [] F] σ K:=by
 refine cj ?_;cases p with
 |nil=>
  refine cd.loop ?_;exact j
 |ps x=>
  rename_i w t b c;have k:=x.len;refine cd.less (dB:=[(0,.d (.ps w t 8 b c)),(1,.fn r [] F),(7,bW a.length),(8,bW 0)]) ⟨Z,Z,int_eq (by rw[k]),Z,tv⟩ ?_;refine cd.iter (fun i:Nat=>[(0,.d (.ps w t 8 b c)),(1,.fn r [] F),(7,bW a.length),(8,bW i)]) (fun _=>σ) (fun i=>a.length-i) (fun i=>i<=a.length) ?_ 0 (aeN _);intro i N;apply aZ<;>intro s
  ·have hi':i<a.length:=ee s;obtain⟨o,q,d⟩:=x.get hi';obtain⟨I,O,tn,J,M,rfl⟩:=d.cZ;refine bZ Z ?_;refine cc _ (by rw[ck];exact q) ?_;refine cg h ?_;refine n i hi' _ d ?_;exact Gc
  ·exact j
theorem oZ(b:(C.ff.get r).isSome=true)(f:D)(a:List hZ)(c:eR a f)(h:a.length<4294967296){σ:VS} 
  (j:∀(i:Nat) (l:i<a.length) (k:cH),eZ a[i].ty k->∀{K:cO->VS->Prop},K (.ret (bX false)) σ->bV C ca r (lw a[i] k::F) σ K)
  {K:cO->VS->Prop} (d:K (.ret (bX false)) σ):bV C ca dN [.d f,.fn r [] F] σ K:=by
 refine cj ?_;refine QB b f a c h j ?_;exact d
variable{B:cH}
theorem zt(l:hZ)(a:eZ l.ty B){σ:VS}{K:cO->VS->Prop}(b:K (.ret (cn l.n)) σ):bV C ca iR [lw l B] σ K:=by
 obtain⟨d,c,tn,f,h,rfl⟩:=a.cZ;refine cC (v:=cn l.n) ?_ Z Z b;exact Fa
theorem DC(f:D)(a:List hZ)(q:eR a f)(V:a.length<4294967296)(t:mw hZ.n a) 
  {σ:VS} {K:cO->VS->Prop} (n:K (.ret (bW 0)) σ):bV C ca pd [.d f,.fn iR [] []] σ K:=by
 refine cj ?_;cases q with
 |nil=>
  refine cd.loop ?_;exact n
 |ps I=>
  rename_i R L d k;have o:=I.len;refine cD (dB:=[(0,.d (.ps R L 8 d k)),(1,.fn iR [] []),(5,bW 1)]) ?_;refine cd.iter (fun i:Nat=>[(0,.d (.ps R L 8 d k)),(1,.fn iR [] []),(5,bW i)]) (fun _=>σ) (fun i=>a.length-i) (fun i=>1<=i) ?_ 1 (aeS _);intro i w;apply aZ<;>intro J
  ·have c:i<a.length:=o▸ee J;obtain⟨e,x,l⟩:=I.get c;obtain⟨g,s,h⟩:=I.get (show i-1<a.length by omega);have Vo:cE (a[i-1]'om).n a[i].n=true:=t.px (aeO om) (aeO c) om;obtain⟨T,X,tn,U,W,rfl⟩:=l.cZ;obtain⟨N,M,S,Q,O,rfl⟩:=h.cZ;have p:=vz (a:=i) w om;have b:=x;have j:=s;rw[<-ck]at b j;repeat first
    |refine bZ p ?_
    |refine bZ rfl ?_
    |refine cc _ j ?_
    |refine cc _ b ?_
    |refine cf ?_
    |refine zt _ h ?_
    |refine zt _ l ?_
    |refine zq _ _ ?_
   exact Zk
  ·exact n
theorem w9(h:eZ cV B):B=[.int .i64 0,.str [],.str [],.ci,.ci]∨∃c f d,B=[.int .i64 0,.str [],.str [],.ci,.ps c f 7 d []]:=by
 cases h with
 |mk b a=>
  obtain rfl:=b.cS;rcases a.cS with rfl|⟨c,f,d,rfl⟩
  ·exact .inl Z
  ·exact .inr ⟨c,f,d,Z⟩
theorem sX(b:eZ cV B){σ:VS}{K:cO->VS->Prop}(a:K (.ret (bX true)) σ):bV C ca jU [.agg (B.map V.d)] σ K:=by
 rcases w9 b with rfl|⟨c,f,d,rfl⟩
 ·refine cC ?_ Z Z a;exact Fa
 ·refine cC ?_ Z Z a;exact Fa
theorem zu{t:Ty}(h:eZ t B){σ:VS}{K:cO->VS->Prop}(f:∀c,K (.ret (bX c)) σ):bV C ca jU [.agg (B.map V.d)] σ K:=by
 cases h with
 |mk b a=>
  rename_i o p l i d q n;refine bV.closed (P:=fun j=>∃c,j=.ret (bX c)) ?_ Z (fun j h=>by obtain⟨c,rfl⟩:=h;exact f c);refine cm ?_;cases b with
  |nil=>
   cases a with
   |nil=>
    exact RT
   |ps a=>
    exact RT
  |ps b k=>
   cases a with
   |nil=>
    exact RT
   |ps a=>
    exact RT
theorem MO{f:FuncId}{dM a:List V}{o:cN}{w:cO->Prop}(s:bV C ca f dM [o] fun c d=>d=[o]/\cM c=true/\w c)(i:Nat){σ:VS}{K:cO->VS->Prop}(hσ:nth σ i=some o)(hc:fW 0 o=true)(b:fu 1 dM=true)(n:a=hU (jT [i] σ.length) dM)(k:∀c,w c->K c σ):
  bV C ca f a σ K:=by
 refine s.frame [i] Z sm (fun j i' h=>?_) b n (fun q l h _=>?_)
 ·exact Za
 ·obtain⟨rfl,p,t⟩:=h;rw[mv _ _ p];simp only[aeP,List.map_nil,fh _ _ hc,merge,List.append_nil];rw[u3 hσ];exact k q t
def fm(s:cq)(t:Int)(l:Bool)(a:Int):V:=.agg [cn s,.d (.int .i64 t),bX l,.d (.int .i64 a)]
def T9:List rL:=[⟨bW 0,fm [98] 0 false 0,0⟩,⟨bW 1,fm [120] 0 false 0,1⟩,⟨bW 2,fm [98] 0 false 0,2⟩,⟨bW 3,fm [110] 0 false 0,3⟩,⟨bW 4,fm [109,110] (-1) false 0,4⟩,
 ⟨bW 5,fm [] 0 true 0,5⟩,⟨bW 6,fm [110] 0 false 1,6⟩,⟨bW 7,fm [110] 0 false 1,7⟩,⟨bW 8,fm [116,111] 0 true 1,8⟩,⟨bW 9,fm [] 0 true 1,9⟩,
 ⟨bW 10,fm [110] 0 false 2,10⟩,⟨bW 11,fm [] 1 false 1,11⟩,⟨bW 12,fm [] 1 false 3,12⟩,⟨bW 13,fm [118] 1 true 1,13⟩,⟨bW 14,fm [] 1 false (-1),14⟩,
 ⟨bW 15,fm [110,120] 1 false 3,15⟩,⟨bW 16,fm [110] 0 false (-1),16⟩]
def HL:cN:=.map T9 17
theorem fitAll {a:Prop} (b:a:=by
 refine cm ?_;repeat' first|(change jR _ _ _;first|refine cg (by with_reducible assumption) ?_|refine a7 (by with_reducible assumption) ?_|refine aZ (fun _=>?_) (fun _=>?_))|refine dx (args:=[.str _,.str _]) (x:=.bool true) rfl rfl ?_|refine dx (args:=[.str _,.str _]) (x:=.bool false) rfl rfl ?_|refine QC (by assumption) ?_|refine QD (by assumption) ?_|refine cd.loop ?_|refine cj ?_
 all_goals exact a8 0 ⟨rfl,rfl⟩):a:=b
structure k8 (k:Nat) (labels:List hZ):Prop where
 name:∀l∈labels,cK l.n=true
 srt:mw hZ.n labels
 var:∀l∈labels,if k=13 then cK l.v=true else l.v=[]
 ty:∀l∈labels,if k=8 then ft l.ty else l.ty=cV/\l.tV=false
def zv(l:List hZ):Nat:=(l.filter hZ.tV).length
def BK:List cq:=[[43],[45],[42],[60],[61,61],[61,61,61],[43,43],[97,110,100],[111,114]]
def K9:List cq:=[[110,111,116],[108,101,110,103,116,104]]
inductive fB:Ex->Prop
 |int {num:Int}:fB (.mk 0 [] [] [] num [] [] [])
 |text {x:cq}:fB (.mk 1 [] [] x 0 [] [] [])
 |bool {b:Bool}:fB (.mk 2 [] [] [] (if b then 1 else 0) [] [] [])
 |loc {n:cq} (hn:cK n=true):fB (.mk 3 [] n [] 0 [] [] [])
 |val {m n:cq} {types:List Ty} (hm:m=[]∨cK m=true) (hn:cK n=true) (ht:∀t∈types,ft t) (hv:m≠[]∨types≠[]):fB (.mk 4 m n [] 0 types [] [])
 |Rz {labels:List hZ} {kids:List Ex} (hl:k8 5 labels) (hk:kids.length=labels.length):fB (.mk 5 [] [] [] 0 [] labels kids)
 |WO {n:cq} {x:Ex} (hn:cK n=true):fB (.mk 6 [] n [] 0 [] [] [x])
 |inj {n:cq} {x:Ex} (hn:cK n=true):fB (.mk 7 [] n [] 0 [] [] [x])
 |func {labels:List hZ} {kids:List Ex} (hl:k8 8 labels) (hk:kids.length=zv labels+1):fB (.mk 8 [] [] [] 0 [] labels kids)
 |call {labels:List hZ} {kids:List Ex} (hl:k8 9 labels) (hk:kids.length=labels.length+1):fB (.mk 9 [] [] [] 0 [] labels kids)
 |WQ {n:cq} {x y:Ex} (hn:cK n=true):fB (.mk 10 [] n [] 0 [] [] [x,y])
 |asc {t:Ty} {x:Ex} (ht:ft t):fB (.mk 11 [] [] [] 0 [t] [] [x])
 |cond {t:Ty} {x y z:Ex} (ht:ft t):fB (.mk 12 [] [] [] 0 [t] [] [x,y,z])
 |mat {t:Ty} {labels:List hZ} {kids:List Ex} (ht:ft t) (hl:k8 13 labels) (hk:kids.length=labels.length+1):fB (.mk 13 [] [] [] 0 [t] labels kids)
 |lst {t:Ty} {kids:List Ex} (ht:ft t):fB (.mk 14 [] [] [] 0 [t] [] kids)
 |fold {n v:cq} {t:Ty} {x y z:Ex} (ht:ft t) (hn:cK n=true) (hv:cK v=true):fB (.mk 15 [] n v 0 [t] [] [x,y,z])
 |one {n:cq} {x:Ex} (hn:n∈K9):fB (.mk 16 [] n [] 0 [] [] [x])
 |two {n:cq} {x y:Ex} (hn:n∈BK):fB (.mk 16 [] n [] 0 [] [] [x,y])
theorem WR{s:cq}(a:cK s=true):(!decide (s=[]))=true:=by
 cases s with
 |nil=>cases a
 |cons b c=>rfl
def Ua(h:Nat)(i n f:cq)(a:Int)(c d b:D):V:=.agg (ky h i n f a c d b)
variable{H v:Ex} {E u:D}
theorem fR.one(a:fR [v] u):∃c f d b,u=.ps c f 8 d [b]:=by
 cases a with|ps a=>cases a with|cons _ a=>cases a;exact⟨_,_,_,_,rfl⟩
theorem fR.two(h:fR [v,H] u):∃b d c a f,u=.ps b d 8 c [a,f]:=by
 exact ab6
theorem fR.three{c:Ex}(h:fR [v,H,c] u):∃d i f a j b,u=.ps d i 8 f [a,j,b]:=by
 exact aac
theorem eR.cS(h:eR [] u):u=.ci∨∃c b a,u=.ps c b 8 a []:=by
 exact O2
theorem fR.cS(h:fR [] u):u=.ci∨∃c b a,u=.ps c b 8 a []:=by
 exact O2
theorem QC{n:cq}(b:n∈BK){σ:VS}{K:cO->VS->Prop}(a:K (.ret (bW 2)) σ):bV C ca qT [cn n] σ K:=by
 simp only[BK,abL,aeM,or_false]at b;rcases b with rfl|rfl|rfl|rfl|rfl|rfl|rfl|rfl|rfl;all_goals refine cj ?_;exact a
theorem QD{n:cq}(b:n∈K9){σ:VS}{K:cO->VS->Prop}(a:K (.ret (bW 1)) σ):bV C ca qT [cn n] σ K:=by
 simp only[K9,abL,aeM,or_false]at b;rcases b with rfl|rfl;all_goals refine cj ?_;exact a
def gy(k:Nat)(l n i:cq)(a:Int)(d h c:D)(f:V):Prop:=bV C ca EN [Ua k l n i a d h c,f] [] fun j b=>b=[]/\j=.ret (bX true)
theorem fits_int(a:Int)(hl:eR [] u)(hk:fR [] E):gy 0 [] [] [] a .ci u E (fm [98] 0 false 0):=by
 unfold gy;exact O0
theorem QE(x:cq)(hl:eR [] u)(hk:fR [] E):gy 1 [] [] x 0 .ci u E (fm [120] 0 false 0):=by
 unfold gy;exact O0
theorem fits_bool(b:Bool)(hl:eR [] u)(hk:fR [] E):gy 2 [] [] [] (if b then 1 else 0) .ci u E (fm [98] 0 false 0):=by
 cases b;all_goals
  unfold gy;exact O0
theorem Ub(n:cq)(hl:eR [] u)(hk:fR [] E):gy 3 [] n [] 0 .ci u E (fm [110] 0 false 0):=by
 unfold gy;exact O0
theorem Uc(b n:cq)(a:D)(hl:eR [] u)(hk:fR [] E):gy 4 b n [] 0 a u E (fm [109,110] (-1) false 0):=by
 unfold gy;exact O0
theorem QF(n:cq){x:Ex}(hl:eR [] u)(hk:fR [x] E):gy 6 [] n [] 0 .ci u E (fm [110] 0 false 1):=by
 exact VA
theorem Ud(n:cq){x:Ex}(hl:eR [] u)(hk:fR [x] E):gy 7 [] n [] 0 .ci u E (fm [110] 0 false 1):=by
 exact VA
inductive ej:Ex->Prop
 |mk {e:Ex} (h:fB e) (hk:∀x∈e.kids,ej x):ej e
def eX(fn:Nat->PR Ex)(d:Rd)(lo:Nat):Prop:=∀a c b,lo<=a->a<d.ts.length->fn a=.ok c b->ej c/\cP c+a<=b/\a<b/\b<d.ts.length
variable{m:Rd}
theorem eX.up{fn:Nat->PR Ex}{lo a:Nat}(h:eX fn m lo)(b:lo<=a):eX fn m a:=fun i f d c=>h i f d (aeQ b c)
def psz(a:Nat)(p:eo):Nat:=cQ p.val+if a=8 then ct p.ty else 0
def ot(a:Nat):List eo->Nat
 |[]=>0
 |p::b=>psz a p+ot a b
theorem QG{l a:List eo}(h:l.Perm a):ot r l=ot r a:=by
 induction h with
 |nil=>rfl
 |cons f _ b=>simp only[ot,b]
 |swap f i l=>simp only[ot];omega
 |trans _ _ d c=>rw[d,c]
theorem zw(d:Nat)(a b:List eo):ot d (a++b)=ot d a+ot d b:=by
 induction a with
 |nil=>simp[ot]
 |cons f a c=>simp only[List.cons_append,ot,c];omega
structure sY (k:Nat) (l:List eo):Prop where
 name:∀x∈l,cK x.n=true
 var:∀x∈l,if k=13 then cK x.v=true else x.v=[]
 ty:∀x∈l,if k=8 then ft x.ty else x.ty=cV/\x.tV=false
 val:∀x∈l,∀e∈x.val,ej e
 one:∀x∈l,x.val.length=if k=8/\x.tV=false then 0 else 1
 nd:(l.map eo.n).Nodup
theorem sY.nil(a:Nat):sY a []:=⟨by simp,by simp,by simp,by simp,by simp,by simp⟩
theorem sY.snoc{l:List eo}{x:eo}(c:sY r l)(o:cK x.n=true)(k:if r=13 then cK x.v=true else x.v=[])(q:if r=8 then ft x.ty else x.ty=cV/\x.tV=false)(n:∀s∈x.val,ej s) 
  (p:x.val.length=if r=8/\x.tV=false then 0 else 1) (h:x.n ∉ l.map eo.n):sY r (l++[x]):=by
 have a:∀{i:eo->Prop},(∀d∈l,i d)->i x->∀d∈l++[x],i d:=fun w t d b=>by
  rcases aeu.1 b with b|b
  ·exact w d b
  ·simp at b;subst b;exact t
 refine⟨a c.name o,a c.var k,a c.ty q,a c.val n,a c.one p,?_⟩;rw[List.map_append,List.nodup_append];refine⟨c.nd,by simp,?_⟩;intro w j t f s;simp only[aeP,List.map_nil,abK]at f;subst s;subst f;exact h j
theorem sY.perm{l f:List eo}(d:sY r l)(b:f.Perm l):sY r f:=
 ⟨fun c a=>d.name c (b.mem_iff.1 a),fun c a=>d.var c (b.mem_iff.1 a),fun c a=>d.ty c (b.mem_iff.1 a),fun c a=>d.val c (b.mem_iff.1 a),fun c a=>d.one c (b.mem_iff.1 a),((b.map eo.n).nodup_iff).2 d.nd⟩
theorem sY.Ue{l:List eo}(d:sY r l)(f:mw eo.n l):k8 r (l.map eo.FH):=by
 refine⟨fun h b=>?_,?_,fun h b=>?_,fun h b=>?_⟩
 ·obtain⟨c,a,rfl⟩:=aeR.1 b;exact d.name c a
 ·exact List.pairwise_map.2 f
 ·obtain⟨c,a,rfl⟩:=aeR.1 b;exact d.var c a
 ·obtain⟨c,a,rfl⟩:=aeR.1 b;exact d.ty c a
theorem QH{l:List eo}(j:∀a∈l,a.val.length=if r=8/\a.tV=false then 0 else 1):(l.flatMap eo.val).length=if r=8 then zv (l.map eo.FH)else l.length:=by
 induction l with
 |nil=>split<;>rfl
 |cons a l c=>
  have h:=j a sm;have d:=c fun k f=>j k (by simp[f]);rw[List.flatMap_cons,aet,h,d];by_cases b:r=8
  ·simp only[b,true_and,if_true];show _=(List.filter hZ.tV (a.FH::List.map eo.FH l)).length;rw[List.filter_cons,zv];have i:a.FH.tV=a.tV:=rfl;rw[i];cases a.tV<;>simp<;>omega
  ·simp only[b,false_and,if_false,List.length_cons];omega
theorem sY.size(c:Nat)(l:List eo):cy (if c=8 then(l.map eo.FH).map hZ.ty else [])+cQ (l.flatMap eo.val)=ot c l:=by
 induction l with
 |nil=>split<;>simp[cy,cQ,ot]
 |cons d l b=>
  rw[List.flatMap_cons,nH,ot,psz,<-b];by_cases a:c=8
  ·simp only[a,if_true,aeP,cy];show ct d.ty+_+_=_;omega
  ·simp only[a,if_false,cy];omega
theorem xQ{k:Nat}{n:cq}{types:List Ty}{kids:List Ex}{l:List eo}:cP (kq k n types kids l)=1+cy types+cQ kids+ot k l:=by
 rw[kq,cP,ga,nH];have a:=sY.size k (cG eo.n l);rw[QG (dE l)]at a;omega
theorem Aw{n:cq}{types:List Ty}{kids:List Ex}{l:List eo}(f:sY r l)(b:∀a∈kids,ej a):∀a∈(kq r n types kids l).kids,ej a:=by
 intro a hx;rcases aeu.1 hx with hx|hx
 ·exact b a hx
 ·obtain⟨d,c,hx⟩:=List.mem_flatMap.1 hx;exact(f.perm (dE l)).val d c a hx
theorem Ax{l:List eo}(a:sY r l):k8 r ((cG eo.n l).map eo.FH):=(a.perm (dE l)).Ue (iG a.nd)
theorem DD{l:List eo}(a:sY r l):((cG eo.n l).flatMap eo.val).length=if r=8 then zv ((cG eo.n l).map eo.FH)else((cG eo.n l).map eo.FH).length:=by
 rw[QH (a.perm (dE l)).one,List.length_map]
variable{G:cq}
theorem QI{h:Type}{step:h->Nat->PR h}(K:m.Wf){lo:Nat}{I:h->Nat->Prop}(l:∀f a c,I f a->a<=c->I f c)(C:∀f a b c,lo<=a->a<m.ts.length->I f a->step f a=.ok b c->I b c/\a<c/\c<m.ts.length):
  ∀(p:Nat) (f:h) (a:Nat) (b:h) (c:Nat),lo<=a->a<m.ts.length->I f a->ji step m G p f a=.ok b c->I b c/\a<c/\c<m.ts.length:=by
 intro p;induction p with
 |zero=>intro f a b c _ _ _ d;cases d
 |succ p J=>
  intro f a b c s q w d;rw[ji]at d;cases j:step f a with
  |bad M P=>rw[j]at d;cases d
  |ok n q1=>
   rw[j]at d;dsimp only at d;obtain⟨k,N,o⟩:=C f a n q1 s q w j;split at d
   ·rename_i t;cases d;exact⟨l _ _ _ k (Nat.le_succ _),om,K.step o t⟩
   ·cases i:cu m [[44]] q1 with
    |bad M P=>rw[i]at d;cases d
    |ok Q q2=>
     rw[i]at d;dsimp only at d;have O:=cL _ _ _ i;obtain⟨D,L,x⟩:=J n q2 b c om (da K _ _ _ o i) (l _ _ _ k om) d;exact⟨D,om,x⟩
theorem v8{b:Type}{step:b->Nat->PR b}(n:m.Wf){lo:Nat}{I:b->Nat->Prop}(d:∀c p r,I c p->p<=r->I c r)(l:∀c p a r,lo<=p->p<m.ts.length->I c p->step c p=.ok a r->I a r/\p<r/\r<m.ts.length) 
  {c:b} {p:Nat} {a:b} (k:lo<=p) (h:p<m.ts.length) (f:I c p) (i:gA step m G c p=.ok a r):I a r/\p<r/\r<m.ts.length:=by
 rw[gA]at i;split at i
 ·rename_i j;cases i;exact⟨d _ _ _ f (Nat.le_succ _),om,n.step h j⟩
 ·exact QI n d l _ c p a r k h f i
theorem kv(i:m.Wf){s:cq}{p b:Nat}{h:Unit}(d:p<m.ts.length)(a:cu m [s] p=.ok h b):b=p+1/\b<m.ts.length/\c5 (m.tok p) s=true:=by
 have c:=da i _ _ _ d a;rw[cu]at a;split at a
 ·rename_i f;cases a;exact⟨rfl,c,f⟩
 ·cases a
variable{e:Nat->PR Ex}
theorem mH(l:m.Wf){lo:Nat}(h:eX e m lo){s:cq}{p c:Nat}(k:lo<=p)(i:p<m.ts.length)(f:fj e m s p=.ok v c):ej v/\cP v+p+1<=c/\p<c/\c<m.ts.length:=by
 rw[fj]at f;cases b:cu m [s] p with
 |bad t w=>rw[b]at f;cases f
 |ok n q1=>
  rw[b]at f;obtain⟨rfl,j,_⟩:=kv l i b;obtain⟨a,o,q,d⟩:=h _ v c om j f;exact ND
theorem qe(h:m.Wf)(f:m.Nm){p d:Nat}{s:cq}(b:p<m.ts.length)(c:dh m p=.ok s d):cK s=true/\d=p+1/\d<m.ts.length:=by
 rw[dh]at c;split at c
 ·cases c
 ·rename_i a;have a:(m.tok p).kind=1:=by simpa using a
  cases c;exact⟨(f p b).1 a,Z,h.go p _ (bY b) om⟩
theorem Ay(j:m.Wf)(h:m.Nm){a:List eo}{p f:Nat}{s:cq}(d:p<m.ts.length)(c:eJ m a p=.ok s f):cK s=true/\s ∉ a.map eo.n/\f=p+1/\f<m.ts.length:=by
 rw[eJ]at c;split at c
 ·cases c
 ·rename_i b;have b:(m.tok p).kind=1:=by simpa using b
  split at c
  ·cases c
  ·rename_i i;cases c;exact⟨(h p d).1 b,i,Z,j.go p _ (bY d) om⟩
def PI(b a:Nat)(l:List eo)(p:Nat):Prop:=sY b l/\ot b l+a<=p
theorem PI.mono{a:Nat}(f:List eo)(p c:Nat)(d:PI r a f p)(b:p<=c):PI r a f c:=⟨d.1,aeQ d.2 b⟩
theorem MP(C:m.Wf)(t:m.Nm){lo j i:Nat}(a:j≠8)(d:j≠13)(w:eX e m lo)(n:List eo)(p:Nat)(f:List eo)(k:Nat)(D:lo<=p)(l:p<m.ts.length)(h:PI j i n p)(c:lP e m n p=.ok f k):PI j i f k/\p<k/\k<m.ts.length:=by
 rw[lP]at c;cases b:eJ m n p with
 |bad K M=>rw[b]at c;cases c
 |ok s q1=>
  rw[b]at c;dsimp only at c;obtain⟨f1,f2,rfl,f4⟩:=Ay C t l b;obtain⟨L,q,rfl⟩:=fH c;obtain⟨x,J,I,o⟩:=mH C w om f4 q;refine⟨⟨h.1.snoc f1 (by rw[if_neg d]) (by rw[if_neg a];exact⟨rfl,rfl⟩) (by simpa using x) (by simp[a]) f2,?_⟩,om,o⟩;have:=h.2;rw[zw,ot,ot,psz,if_neg a,cQ,cQ];omega
theorem MQ(C:m.Wf)(h:m.Nm){lo i:Nat}(t:eX e m lo)(l:List eo)(p:Nat)(d:List eo)(j:Nat)(I:lo<=p)(k:p<m.ts.length)(f:PI 13 i l p)(a:ks e m l p=.ok d j):PI 13 i d j/\p<j/\j<m.ts.length:=by
 rw[ks]at a;cases c:eJ m l p with
 |bad D L=>rw[c]at a;cases a
 |ok s q1=>
  rw[c]at a;dsimp only at a;obtain⟨f1,f2,rfl,f4⟩:=Ay C h k c;cases b:dh m (p+1)with
  |bad D L=>rw[b]at a;cases a
  |ok M q2=>
   rw[b]at a;dsimp only at a;obtain⟨x,rfl,n⟩:=qe C h f4 b;obtain⟨N,q,rfl⟩:=fH a;obtain⟨w,K,J,o⟩:=mH C t om n q;refine⟨⟨f.1.snoc f1 (by rw[if_pos rfl];exact x) (by rw[if_neg dc];exact⟨rfl,rfl⟩) (by simpa using w) sm f2,?_⟩,om,o⟩;have:=f.2;rw[zw,ot,ot,psz,if_neg dc,cQ,cQ];omega
variable{g:Nat->PR Ty}
theorem MR(J:m.Wf)(x:m.Nm){lo j:Nat}(n:Good g m lo)(C:eX e m lo)(l:List eo)(p:Nat)(h:List eo)(i:Nat)(O:lo<=p)(k:p<m.ts.length)(c:PI 8 j l p)(a:jW g e m l p=.ok h i):PI 8 j h i/\p<i/\i<m.ts.length:=by
 rw[jW]at a;cases d:eJ m l p with
 |bad K M=>rw[d]at a;cases a
 |ok s q1=>
  rw[d]at a;dsimp only at a;obtain⟨f1,f2,rfl,f4⟩:=Ay J x k d;cases b:cu m [[58]] (p+1)with
  |bad K M=>rw[b]at a;cases a
  |ok R q2=>
   rw[b]at a;dsimp only at a;obtain⟨rfl,o,_⟩:=kv J f4 b;cases f:g (p+1+1)with
   |bad K M=>rw[f]at a;cases a
   |ok D q3=>
    rw[f]at a;dsimp only at a;obtain⟨t1,t2,t3,t4⟩:=n _ D q3 om o f;have L:=c.2;split at a
    ·rename_i q;obtain⟨N,w,rfl⟩:=fH a;obtain⟨I,Q,P,t⟩:=C _ N i om (J.step t4 q) w;refine⟨⟨c.1.snoc f1 (by rw[if_neg dc]) (by rw[if_pos rfl];exact t1) (by simpa using I) sm f2,?_⟩,om,t⟩;rw[zw,ot,ot,psz,if_pos rfl,cQ,cQ];show _+(_+ct D+_)+_<=_;omega
    ·cases a;refine⟨⟨c.1.snoc f1 (by rw[if_neg dc]) (by rw[if_pos rfl];exact t1) sm sm f2,?_⟩,om,t4⟩;rw[zw,ot,ot,psz,if_pos rfl,cQ];show _+(_+ct D+_)+_<=_;omega
theorem Bg(C:m.Wf)(t:m.Nm){lo k:Nat}(d:k≠8)(b:k≠13)(w:eX e m lo){kids:List Ex}{p f:Nat}(j:∀v∈kids,ej v)(l:lo<=p)(i:p<m.ts.length) 
  (s:∀h,k8 k h->∀c:List Ex,c.length=h.length->fB (.mk k [] [] [] 0 [] h (kids++c))) (x:jP e m G k kids p=.ok v f):ej v/\cP v+p<=1+cQ kids+f/\p<f/\f<m.ts.length:=by
 rw[jP]at x;obtain⟨h,n,rfl⟩:=fH x;obtain⟨⟨a,D⟩,o,q⟩:=v8 (I:=PI k p) C PI.mono (MP C t d b w) l i ⟨sY.nil k,by rw[ot];omega⟩ n;refine⟨.mk ?_ (Aw a j),?_,o,q⟩
 ·exact s _ (Ax a) _ (by rw[DD a,if_neg d])
 ·rw[xQ,cy];omega
variable{y:Int}
theorem nI{a n b:cq}:cP (.mk r a n b y [] [] [])=1:=by
 rw[cP,cQ];split<;>simp[cy]
theorem ej.leaf{c n a:cq}{types:List Ty}(d:fB (.mk r c n a y types [] [])):ej (.mk r c n a y types [] []):=.mk d (fun a b=>by cases b)
variable{z:List hZ}
theorem ej.one{d n c:cq}{types:List Ty}(f:fB (.mk r d n c y types z [v]))(a:ej v):ej (.mk r d n c y types z [v]):=.mk f (fun h b=>by
 obtain rfl:=abK.1 b;exact a)
theorem ej.two{i n h:cq}{types:List Ty}{d b:Ex}(j:fB (.mk r i n h y types z [d,b]))(c:ej d)(f:ej b):ej (.mk r i n h y types z [d,b]):=.mk j (fun k a=>by
 rcases abL.1 a with rfl|a
 ·exact c
 ·obtain rfl:=abK.1 a;exact f)
theorem ej.three{k n j:cq}{types:List Ty}{f b c:Ex}(l:fB (.mk r k n j y types z [f,b,c]))(d:ej f)(h:ej b)(i:ej c):ej (.mk r k n j y types z [f,b,c]):=.mk l (fun o a=>by
 rcases abL.1 a with rfl|a
 ·exact d
 ·rcases abL.1 a with rfl|a
  ·exact h
  ·obtain rfl:=abK.1 a;exact i)
theorem gS{c n b:cq}{types:List Ty}{a:List Ex}:cP (.mk r c n b y types [] a)=1+cy types+cQ a:=by
 rw[cP];split<;>simp
theorem FT(i:m.Wf){b p f:Nat}(h:p<m.ts.length)(a:sT b m p=.ok v f):ej v/\cP v+p<=f/\p<f/\f<m.ts.length:=by
 rw[sT]at a;split at a
 ·cases a
 ·rename_i c;have c:(m.tok p).kind=3:=by simpa using c
  have d:=i.go p _ (bY h) om;split at a
  ·split at a
   ·cases a
   ·cases a;exact⟨.leaf .int,by rw[nI];omega,om,d⟩
  ·cases a
variable{A:List cq}
theorem Kn{t:Tok}{o:cq}(c:xj t A=some o):o∈A/\c5 t o=true:=by
 obtain⟨d,a,rfl,b,_⟩:=vS c;exact⟨List.getElem_mem a,b⟩
theorem QJ(N:m.Wf){fn:Nat->PR Ex}(w:∀s∈A,s∈BK){lo:Nat}(C:eX fn m lo):∀(p:Nat) (l:Ex) (b a:Nat) (f:Ex) (d:Nat),lo<=b->b<m.ts.length->ej l->cP l+a<=b->a<b->zf fn A m p l b=.ok f d->ej f/\cP f+a<=d/\a<d/\d<m.ts.length:=by
 intro p;induction p with
 |zero=>intro l b a f d _ _ _ _ _ c;cases c
 |succ p D=>
  intro l b a f d L i n x q c;rw[zf]at c;split at c
  ·cases c;exact⟨n,x,q,i⟩
  ·rename_i s k;obtain⟨j,I⟩:=Kn k;have h:=N.step i I;split at c
   ·cases c
   ·rename_i J o t;obtain⟨K,O,P,M⟩:=C (b+1) J o om h t;refine D _ o a f d om M (.two (.two (w s j)) n K) ?_ om c;rw[gS];simp only[cy,cQ];omega
theorem wa(w:m.Wf){fn:Nat->PR Ex}(h:∀n∈A,n∈BK){lo:Nat}(a:eX fn m lo):eX (oH fn A m) m lo:=by
 intro k p s f d c;rw[oH]at c;split at c
 ·cases c
 ·rename_i j b i;obtain⟨l,q,t,o⟩:=a k j b f d i;exact QJ w h a _ j b k p s om o l q t c
theorem Ko:∀(f:Nat) (b:List Ty) (h:Nat) (i:List Ty) (j:Nat),ey g m f b h=.ok i j->i≠[]:=by
 intro f;induction f with
 |zero=>intro b h i j a;cases a
 |succ f k=>
  intro b h i j a;rw[ey]at a;cases c:g h with
  |bad n l=>rw[c]at a;cases a
  |ok p q1=>
   rw[c]at a;dsimp only at a;split at a
   ·exact k _ _ _ _ a
   ·cases d:cu m [[93]] q1 with
    |bad n l=>rw[d]at a;cases a
    |ok o q2=>rw[d]at a;cases a;simp
theorem Kp(N:m.Wf)(f:m.Nm){s:cq}{p c:Nat}(J:Good g m p)(d:cK s=true)(C:p<m.ts.length)(a:iH g m s p=.ok v c):ej v/\cP v+p<=c+1/\p<=c/\c<m.ts.length:=by
 have q:s≠[]:=fun Q=>by rw[Q]at d;cases d
 rw[iH]at a;have h:∀(D:Nat) (l I:cq) (q1:Nat),((D=4/\l=s)∨(D=3/\l=[]))->cK I=true->p<=q1->q1<m.ts.length->(if c5 (m.tok q1) [91]=true then(jV g m q1).map fun O=>Ex.mk 4 l I [] 0 O [] []else .ok (.mk D l I [] 0 [] [] []) q1)=.ok v c->ej v/\cP v+p<=c+1/\p<=c/\c<m.ts.length:=by
  intro D l I q1 w n x i a;have f:l=[]∨cK l=true:=by rcases w with⟨_,rfl⟩|⟨_,rfl⟩;exact .inr d;exact .inl rfl
  split at a
  ·rename_i t;obtain⟨O,k,rfl⟩:=fH a;obtain⟨R,W,U⟩:=xN N (fun M T c P=>J M T c om) i k;have j:O≠[]:=by
    rw[jV,if_pos t]at k;exact Ko _ _ _ _ _ k
   refine⟨.leaf (.val f n R (.inr j)),?_,om,U⟩;rw[gS,cQ];omega
  ·cases a;rcases w with⟨rfl,rfl⟩|⟨rfl,rfl⟩
   ·exact⟨.leaf (.val f n sm (.inl q)),by rw[nI];omega,x,i⟩
   ·exact⟨.leaf (.loc n),by rw[nI];omega,x,i⟩
 by_cases b:c5 (m.tok p) [58,58]=true
 ·rw[if_pos b]at a;cases o:dh m (p+1)with
  |bad V Q=>rw[o]at a;cases a
  |ok S q1=>
   rw[o]at a;obtain⟨L,rfl,K⟩:=qe N f (N.step C b) o;exact h 4 s S _ (.inl ⟨Z,Z⟩) L om K a
 ·rw[if_neg b]at a;exact h 3 [] s p (.inr ⟨Z,Z⟩) d (aeS _) C a
theorem MS{lo h:Nat}(q:eX e m lo)(j:List Ex)(p:Nat)(b:List Ex)(f:Nat)(k:lo<=p)(i:p<m.ts.length)(d:(∀c∈j,ej c)/\cQ j+h<=p)(t:oc e j p=.ok b f):((∀c∈b,ej c)/\cQ b+h<=f)/\p<f/\f<m.ts.length:=by
 rw[oc]at t;obtain⟨c,o,rfl⟩:=fH t;obtain⟨s,x,l,n⟩:=q p c f k i o;refine⟨⟨fun w a=>?_,?_⟩,l,n⟩
 ·rcases aeu.1 a with a|a
  ·exact d.1 w a
  ·obtain rfl:=abK.1 a;exact s
 ·rw[nH,cQ,cQ];have:=d.2;omega
theorem MT(j:m.Wf)(w:m.Nm){lo:Nat}(o:Good g m lo)(l:eX e m (lo+1)):eX (gd g e m) m lo:=by
 intro n V L r i b;have l:eX e m (n+1):=l.up om;have o:Good g m n:=fun t C L K=>o t C L om;rw[gd]at b;split at b
 ·exact FT j i b
 ·split at b
  ·rename_i c;cases b;exact⟨.leaf .text,by rw[nI];omega,om,j.go n _ (bY i) om⟩
  ·split at b
   ·rename_i c;obtain⟨a,D,U,d⟩:=Kp j w (fun t C L K=>o t C L om) ((w n i).1 c) (j.go n _ (bY i) om) b;exact ND
   ·split at b
    ·rename_i c;cases b;exact⟨.leaf (.bool (b:=true)),by rw[nI];omega,om,j.step i c⟩
    ·split at b
     ·rename_i c;cases b;exact⟨.leaf (.bool (b:=false)),by rw[nI];omega,om,j.step i c⟩
     ·split at b
      ·rename_i c;obtain⟨a,D,U,d⟩:=Bg j w (k:=5) (kids:=[]) dc dc l sm (aeS _) (j.step i c) (fun v x Y J=>.Rz x J) b;rw[cQ]at D;exact ND
      ·split at b
       ·rename_i c;cases h:dh m (n+1)with
        |bad I M=>rw[h]at b;cases b
        |ok s q1=>
         rw[h]at b;dsimp only at b;obtain⟨T,rfl,N⟩:=qe j w (j.step i c) h;cases f:fj e m [58] (n+1+1)with
         |bad I M=>rw[f]at b;cases b
         |ok W q2=>
          rw[f]at b;dsimp only at b;obtain⟨a,D,U,d⟩:=mH j l om N f;obtain⟨S,p,rfl⟩:=fH b;obtain⟨rfl,k,_⟩:=kv j d p;exact⟨.one (.inj T) a,by rw[gS];simp only[cy,cQ];omega,om,k⟩
       ·split at b
        ·rename_i c;cases h:g (n+1)with
         |bad I M=>rw[h]at b;cases b
         |ok C q1=>
          rw[h]at b;dsimp only at b;obtain⟨t1,t2,t3,t4⟩:=o (n+1) C q1 om (j.step i c) h;cases f:cu m [[124]] q1 with
          |bad I M=>rw[f]at b;cases b
          |ok S q2=>
           rw[f]at b;dsimp only at b;obtain⟨rfl,k,_⟩:=kv j t4 f;obtain⟨v,x,rfl⟩:=fH b;obtain⟨⟨Q,X⟩,u,P⟩:=v8 (I:=fun a t=>(∀V∈a,ej V)/\cQ a+(q1+1)<=t) j (fun a n L b O=>⟨b.1,aeQ b.2 O⟩) (MS l) om k ⟨by simp,by rw[cQ];omega⟩ x;exact⟨.mk (.lst t1) Q,by rw[gS];simp only[cy];omega,om,P⟩
        ·split at b
         ·rename_i c;cases h:e (n+1)with
          |bad I M=>rw[h]at b;cases b
          |ok W q1=>
           rw[h]at b;dsimp only at b;obtain⟨a,D,U,d⟩:=l (n+1) W q1 om (j.step i c) h;by_cases q:c5 (m.tok q1) [58]=true
           ·rw[if_pos q]at b;cases f:g (q1+1)with
            |bad I M=>rw[f]at b;cases b
            |ok C q2=>
             rw[f]at b;dsimp only[PR.map]at b;obtain⟨t1,t2,t3,t4⟩:=o (q1+1) C q2 om (j.step d q) f;obtain⟨S,p,rfl⟩:=fH b;obtain⟨rfl,k,_⟩:=kv j t4 p;exact⟨.one (.asc t1) a,by rw[gS];simp only[cy,cQ];omega,om,k⟩
           ·rw[if_neg q]at b;dsimp only at b;obtain⟨S,p,rfl⟩:=fH b;obtain⟨rfl,k,_⟩:=kv j d p;exact⟨a,om,om,k⟩
         ·cases b
theorem MU(w:m.Wf)(p:m.Nm){lo:Nat}(K:eX e m lo):∀(t:Nat) (i:Ex) (d a:Nat) (j:Ex) (f:Nat),lo<=d->d<m.ts.length->ej i->cP i+a<=d->a<d->p8 e m t i d=.ok j f->ej j/\cP j+a<=f/\a<f/\f<m.ts.length:=by
 intro t;induction t with
 |zero=>intro i d a j f _ _ _ _ _ b;cases b
 |succ t q=>
  intro i d a j f P h k I x b;rw[p8]at b;split at b
  ·rename_i o;cases c:dh m (d+1)with
   |bad N S=>rw[c]at b;cases b
   |ok s q1=>
    rw[c]at b;dsimp only at b;obtain⟨L,rfl,C⟩:=qe w p (w.step h o) c;exact q _ _ a j f om C (.one (.WO L) k) (by rw[gS];simp only[cy,cQ];omega) om b
  ·split at b
   ·rename_i n;cases c:jP e m [41] 9 [i] (d+1)with
    |bad N S=>rw[c]at b;cases b
    |ok T q1=>
     rw[c]at b;dsimp only at b;obtain⟨M,R,V,Q⟩:=Bg w p (k:=9) (kids:=[i]) dc dc K (by simpa using k) om (w.step h n) (fun W D O l=>.call D (by rw[aet,l,aev];omega)) c;simp only[cQ]at R;exact q _ _ a j f om Q M om om b
   ·cases b;exact⟨k,I,x,h⟩
theorem MV(n:m.Wf)(a:m.Nm){lo:Nat}(h:Good g m lo)(b:eX e m (lo+1)):eX (od g e m) m lo:=by
 intro l q t i f d;rw[od]at d;split at d
 ·cases d
 ·rename_i k c j;obtain⟨o,s,w,p⟩:=MT n a h b l k c i f j;exact MU n a b _ k c l q t om p o s w d
theorem QK(w:m.Wf){lo:Nat}(i:eX (od g e m) m lo):∀f,eX (tP g e m f) m lo:=by
 intro f;induction f with
 |zero=>intro p k q _ _ h;cases h
 |succ f ih=>
  intro p k q j h2 h;rw[tP]at h;split at h
  ·exact YK
  ·split at h
   ·rename_i hk;obtain⟨a,b,c,d⟩:=FT w (w.step h2 hk) h;exact ND
   ·exact i p k q j h2 h
theorem QL(w:m.Wf){lo:Nat}(j:eX (wX g e m) m lo):∀k,eX (qj g e m k) m lo:=by
 intro k;induction k with
 |zero=>intro p L q _ _ h;cases h
 |succ k ih=>
  intro p L q n h2 h;rw[qj]at h;split at h
  ·exact YK
  ·cases i:wX g e m p with
   |bad M N=>rw[i]at h;cases h
   |ok x q1=>
    rw[i]at h;dsimp only at h;obtain⟨a,b,c,d⟩:=j p x q1 n h2 i;split at h
    ·cases h;exact⟨a,b,c,d⟩
    ·rename_i s C;obtain⟨f,D⟩:=Kn C;obtain⟨I,o,rfl⟩:=fH h;obtain⟨l,K,J,t⟩:=j (q1+1) I q om (w.step d D) o;refine⟨.two (.two ?_) a l,by rw[gS];simp only[cy,cQ];omega,om,t⟩;simp only[abL,aeM,or_false]at f;rcases f with rfl|rfl|rfl<;>simp[BK]
theorem Uf(b:m.Wf)(c:m.Nm){lo:Nat}(k:Good g m lo)(d:eX e m (lo+1)):eX (Wo g e m) m lo:=by
 have i:=QK b (MV b c k d) m.ts.length;have f:eX (acI g e m) m lo:=wa b (fun n a=>by simp at a;subst a;simp[BK]) i;have l:eX (wX g e m) m lo:=wa b (fun n a=>by simp at a;rcases a with rfl|rfl|rfl<;>simp[BK]) f;have h:=QL b l m.ts.length;have j:eX (acJ g e m) m lo:=wa b (fun n a=>by simp at a;subst a;simp[BK]) h;exact wa b (fun n a=>by simp at a;subst a;simp[BK]) j
theorem rv(o:m.Wf){p f:Nat}{t:Ty}(h:Good g m p)(j:p<m.ts.length)(a:dO g m p=.ok t f):ft t/\ct t+p<=f/\p<f/\f<m.ts.length:=by
 rw[dO]at a;cases c:cu m [[91]] p with
 |bad l n=>rw[c]at a;cases a
 |ok w q1=>
  rw[c]at a;dsimp only at a;obtain⟨rfl,i,_⟩:=kv o j c;cases b:g (p+1)with
  |bad l n=>rw[b]at a;cases a
  |ok t1 q2=>
   rw[b]at a;dsimp only at a;obtain⟨q,x,C,s⟩:=h (p+1) t1 q2 om i b;cases d:cu m [[93]] q2 with
   |bad l n=>rw[d]at a;cases a
   |ok w q3=>
    rw[d]at a;cases a;obtain⟨rfl,k,_⟩:=kv o s d;exact⟨q,om,om,k⟩
theorem QM(o:m.Wf)(l:m.Nm){lo:Nat}(d:eX e m lo):eX (xI e m) m lo:=by
 intro p L N C f a;rw[xI]at a;cases c:dh m p with
 |bad x I=>rw[c]at a;cases a
 |ok s q1=>
  rw[c]at a;dsimp only at a;obtain⟨n,rfl,h⟩:=qe o l f c;cases b:fj e m [61] (p+1)with
  |bad x I=>rw[b]at a;cases a
  |ok K q2=>
   rw[b]at a;dsimp only at a;obtain⟨t,M,O,D⟩:=mH o d om h b;obtain⟨J,j,rfl⟩:=fH a;obtain⟨i,w,q,k⟩:=mH o d om D j;exact⟨.two (.WQ n) t i,by rw[gS];simp only[cy,cQ];omega,om,k⟩
theorem MW(o:m.Wf){lo:Nat}(i:Good g m lo)(f:eX e m lo):eX (oT g e m) m lo:=by
 intro J Q s I h a;rw[oT]at a;cases c:dO g m J with
 |bad p w=>rw[c]at a;cases a
 |ok t q1=>
  rw[c]at a;dsimp only at a;obtain⟨t1,t2,t3,t4⟩:=rv o (fun n t s q=>i n t s om) h c;cases b:e q1 with
  |bad p w=>rw[b]at a;cases a
  |ok D q2=>
   rw[b]at a;dsimp only at a;obtain⟨x,R,S,K⟩:=f q1 D q2 om t4 b;cases d:fj e m [116,104,101,110] q2 with
   |bad p w=>rw[d]at a;cases a
   |ok O q3=>
    rw[d]at a;dsimp only at a;obtain⟨l,N,L,d2⟩:=mH o f om K d;obtain⟨P,k,rfl⟩:=fH a;obtain⟨j,C,M,d3⟩:=mH o f om d2 k;exact⟨.three (.cond t1) x l j,by rw[gS];simp only[cy,cQ];omega,om,d3⟩
theorem Kq(i:m.Wf)(p:m.Nm){lo:Nat}(k:Good g m lo)(h:eX e m lo):eX (mz g e m) m lo:=by
 intro L O w K j a;rw[mz]at a;cases d:dO g m L with
 |bad s C=>rw[d]at a;cases a
 |ok x q1=>
  rw[d]at a;dsimp only at a;obtain⟨t1,t2,t3,t4⟩:=rv i (fun q x w t=>k q x w om) j d;cases b:e q1 with
  |bad s C=>rw[b]at a;cases a
  |ok J q2=>
   rw[b]at a;dsimp only at a;obtain⟨I,P,S,M⟩:=h q1 J q2 om t4 b;cases f:cu m [[123]] q2 with
   |bad s C=>rw[f]at a;cases a
   |ok R q3=>
    rw[f]at a;dsimp only at a;obtain⟨rfl,l,_⟩:=kv i M f;obtain⟨T,n,rfl⟩:=fH a;obtain⟨⟨c,D⟩,N,o⟩:=v8 (I:=PI 13 (q2+1)) i PI.mono (MQ i p h) om l ⟨sY.nil 13,by rw[ot];omega⟩ n;refine⟨.mk (.mat t1 (Ax c) ?_) (Aw c (by simpa using I)),?_,om,o⟩
    ·rw[aet,DD c,if_neg dc,aev];omega
    ·rw[xQ];simp only[cy,cQ];omega
theorem MX(k:m.Wf)(n:m.Nm){lo:Nat}(t:Good g m lo)(i:eX e m lo):eX (lQ g e m) m lo:=by
 intro U z O T p a;rw[lQ]at a;cases f:dO g m U with
 |bad l o=>rw[f]at a;cases a
 |ok P q1=>
  rw[f]at a;dsimp only at a;obtain⟨t1,t2,t3,t4⟩:=rv k (fun M P O N=>t M P O om) p f;cases d:dh m q1 with
  |bad l o=>rw[d]at a;cases a
  |ok s q2=>
   rw[d]at a;dsimp only at a;obtain⟨L,rfl,w⟩:=qe k n t4 d;cases h:cu m [[44]] (q1+1)with
   |bad l o=>rw[h]at a;cases a
   |ok B q3=>
    rw[h]at a;dsimp only at a;obtain⟨rfl,x,_⟩:=kv k w h;cases j:dh m (q1+1+1)with
    |bad l o=>rw[j]at a;cases a
    |ok v q4=>
     rw[j]at a;dsimp only at a;obtain⟨J,rfl,q⟩:=qe k n x j;cases b:fj e m [105,110] (q1+1+1+1)with
     |bad l o=>rw[b]at a;cases a
     |ok y D=>
      rw[b]at a;dsimp only at a;obtain⟨Q,A,E,V⟩:=mH k i om q b;cases c:fj e m [102,114,111,109] D with
      |bad l o=>rw[c]at a;cases a
      |ok r S=>
       rw[c]at a;dsimp only at a;obtain⟨K,Y,W,d2⟩:=mH k i om V c;obtain⟨u,I,rfl⟩:=fH a;obtain⟨C,R,X,d3⟩:=mH k i om d2 I;exact⟨.three (.fold t1 L J) Q K C,by rw[gS];simp only[cy,cQ];omega,om,d3⟩
theorem MY(l:m.Wf)(t:m.Nm){lo:Nat}(o:Good g m lo)(i:eX e m lo):eX (funcF g e m) m lo:=by
 intro k R O K n b;rw[funcF]at b;cases h:cu m [[40]] k with
 |bad I P=>rw[h]at b;cases b
 |ok U q1=>
  rw[h]at b;dsimp only at b;obtain⟨rfl,p,_⟩:=kv l n h;cases c:gA (jW g e m) m [41] [] (k+1)with
  |bad I P=>rw[c]at b;cases b
  |ok w q2=>
   rw[c]at b;dsimp only at b;obtain⟨⟨d,C⟩,N,q⟩:=v8 (I:=PI 8 (k+1)) l PI.mono (MR l t o i) om p ⟨sY.nil 8,by rw[ot];omega⟩ c;obtain⟨J,s,rfl⟩:=fH b;obtain⟨D,S,V,L⟩:=mH l i om q s;have j:=xQ (k:=8) (n:=[]) (types:=[]) (kids:=[]) (l:=w);rw[kq,cP]at j;refine⟨.mk (.func (Ax d) ?_) ?_,?_,om,L⟩
   ·rw[List.nil_append,aet,DD d,if_pos rfl,aev]
   ·intro x a;rcases aeu.1 a with a|a
    ·exact Aw (n:=[]) (types:=[]) (kids:=[]) d sm x a
    ·obtain rfl:=abK.1 a;exact D
   ·show cP (.mk 8 [] [] [] 0 [] _ (_++[J]))+k<=O;rw[cP,nH];simp only[cQ,cy]at j⊢;omega
theorem zx(p:m.Wf)(h:m.Nm):∀(t j:Nat),eX (Ih m t) m j:=by
 intro t;induction t with
 |zero=>intro j k q o _ _ f;cases f
 |succ t i=>
  intro j k q o D s f;have l:∀j,Good (dl m m.ts.length) m j:=fun j k I o _=>pt p h m.ts.length k I o (aeN _);have n:∀{fn:Nat->PR Ex},eX fn m 0->k+1<m.ts.length->fn (k+1)=.ok q o->ej q/\cP q+k<=o/\k<o/\o<m.ts.length:=fun w x C=>by
   obtain⟨a,J,K,d⟩:=w (k+1) q o (aeN _) x C;exact ND
  rw[Ih,ET]at f;have c:(m.tok k).kind=5->k+1<m.ts.length:=fun b=>p.go k _ (bY s) om;split at f
  ·rename_i b;exact n (QM p h (i 0)) (c b.1) f
  ·split at f
   ·rename_i b;exact n (MW p (l 0) (i 0)) (c b.1) f
   ·split at f
    ·rename_i b;exact n (Kq p h (l 0) (i 0)) (c b.1) f
    ·split at f
     ·rename_i b;exact n (MX p h (l 0) (i 0)) (c b.1) f
     ·split at f
      ·rename_i b;exact n (MY p h (l 0) (i 0)) (c b.1) f
      ·exact Uf p h (l 0) (i 1) k q o (aeN _) s f
end Go.Proofs.YtpejealjkmhkgaaGreatDoor
