/- Part of the proof. -/
import Derived.Test.YtpejealjkmhkgaaGreatDoorKBc
set_option linter.all false
set_option maxHeartbeats 16000000
set_option maxRecDepth 100000
open Nat renaming reduceEqDiff->abK,le_refl->aet,beq->aeu,le_of_ble_eq_true->aev
open Bool renaming false_eq_true->abL
open Int renaming ofNat->aeM
open List renaming length_cons->aeN,getElem?_eq_getElem->aeO,map->aeP
namespace Go.Proofs.YtpejealjkmhkgaaGreatDoor
open Go.AM Go.VM
variable{m:List cq}
theorem Qh{t:Tok}(e:xj t m=none):∀b∈m,c5 t b=false:=by
 intro b d;have:=List.find?_eq_none.1 e b d;simpa using this
theorem vS{t:Tok}:∀{b:List cq} {i:cq},xj t b=some i->∃j,∃h:j<b.length,b[j]=i/\c5 t i=true/\∀d (l:d<b.length),d<j->c5 t b[d]=false:=by
 intro b;induction b with
 |nil=>intro i e;cases e
 |cons w x n=>
  intro i e;rw[xj,List.find?_cons]at e;split at e
  ·rename_i f;cases e;exact⟨0,by simp,Z,f,fun d _ e=>om⟩
  ·rename_i f;obtain⟨j,h,s,p,o⟩:=n e;refine⟨j+1,by simpa using h,by simpa using s,p,fun d l q=>?_⟩;cases d with
   |zero=>simpa using f
   |succ d=>exact o d (by simpa using l) om
variable{B g u:Nat} {a:Rd}
theorem Qi(p:g<a.ts.length)(d:List cq)(s:d.length<4294967296)(w:u<d.length)(n:c5 (a.tok g) d[u]=true)(j:∀h (t:h<d.length),h<u->c5 (a.tok g) d[h]=false)(h b f:Nat){σ:VS}{K:cO->VS->Prop}(l:nth σ h=some (dp a g))(o:K (.ret (bW u)) σ):
  bV C ca kK [.d (.ps b 0 1 f (eW d)),.fn ko [.bp h 0] []] σ K:=by
 refine cj ?_;refine cd.less (dB:=[(0,.d (.ps b 0 1 f (eW d))),(1,.fn ko [.bp h 0] []),(7,bW d.length),(8,bW 0)]) ⟨Z,Z,int_eq (by simp[eW]),Z,tv⟩ ?_;refine cd.iter (fun e:Nat=>[(0,.d (.ps b 0 1 f (eW d))),(1,.fn ko [.bp h 0] []),(7,bW d.length),(8,bW e)]) (fun _=>σ) (fun e=>d.length-e) (fun e=>e<=u) ?_ 0 (Nat.zero_le _);intro e q;have i:e<d.length:=om;refine cg (decide_eq_true (by simp only[Int.ofNat_eq_natCast];omega)) ?_;refine bZ Z ?_;refine cc [.str d[e]] (by rw[ck,eW,List.getElem?_map,aeO i];rfl) ?_;refine qV a g (a.tok g) d[e] (bY p) h l ?_;by_cases x:e=u
 ·subst x;rw[n];exact o
 ·rw[j e i om];refine⟨e+1,om,iK,.eS,Z,Z⟩
theorem Wq(F:a.Wf){fn:Nat->PR Ex}{lo:Nat}(f:∀b j d,lo<=b->b<a.ts.length->fn b=.ok j d->b<d/\d<a.ts.length):∀(n:Nat) (j:Ex) (b:Nat) (o:Ex) (d:Nat),lo<=b->b<a.ts.length->zf fn m a n j b=.ok o d->b<=d/\d<a.ts.length:=by
 intro n;induction n with
 |zero=>intro j b o d _ _ e;cases e
 |succ n t=>
  intro j b o d x i e;rw[zf]at e;split at e
  ·cases e;exact⟨aet _,i⟩
  ·rename_i H q;obtain⟨I,D,K,s,_⟩:=vS q;have h:=F.step i s;split at e
   ·cases e
   ·rename_i w l p;obtain⟨G,C⟩:=f (b+1) w l om h p;obtain⟨J,y⟩:=t _ l o d om C e;exact⟨om,y⟩
theorem B4(s:a.Wf){fn:Nat->PR Ex}{lo:Nat}(e:∀b h d,lo<=b->b<a.ts.length->fn b=.ok h d->b<d/\d<a.ts.length):∀(b:Nat) (j:Ex) (d:Nat),lo<=b->b<a.ts.length->oH fn m a b=.ok j d->b<d/\d<a.ts.length:=by
 intro b j d n l i;rw[oH]at i;split at i
 ·cases i
 ·rename_i h f o;obtain⟨w,q⟩:=e b h f n l o;obtain⟨t,p⟩:=Wq s e _ h f j d om q i;exact⟨om,p⟩
def z8:List V:=[bW 0,cn [],cn [],cn [],bW 0,.d .ci,.d .ci,.d .ci]
def acK:Nat->Bool:=fun b=>aeu b 27
theorem Mz(q:(C.ff.get g).isSome=true)(d:List cq)(L:d.length<4294967296)(r:a.Wf){fn:Nat->PR Ex}{p:Nat}(t:mA g fn a p)(J:p<a.ts.length)(b j:Nat):
  bV C ca tw [.bp 0 0,.fn g [.bp 0 0] [],.d (.ps b 0 1 j (eW d))] [dp a p] (K3 a (oH fn d a p)):=by
 have T:=r.len;refine cv acK (fun _=>Z) ?_;refine cg q ?_;refine t.call p (aet _) J 0 _ _ Z (fun F z f Q h=>?_) (fun M Q f k=>?_)
 ·obtain⟨l,i⟩:=t.lt p F f (aet _) J Q;obtain⟨ac,ae,ad,U,I,Y,c,S,rfl⟩:=h.eight;refine cD (dB:=[(0,.bp 0 0),(1,.fn g [.bp 0 0] []),(2,.d (.ps b 0 1 j (eW d))),(6,.bp 1 0),(7,.bp 2 0)]) ?_;refine cd.iter (fun _:Nat×Ex×cH=>[(0,.bp 0 0),(1,.fn g [.bp 0 0] []),(2,.d (.ps b 0 1 j (eW d))),(6,.bp 1 0),(7,.bp 2 0)]) (fun o=>[dp a o.1,.box z8,.box (o.2.2.map V.d)]) (fun o=>a.ts.length-o.1)
   (fun o=>p<o.1/\o.1<a.ts.length/\je o.2.1 o.2.2/\∃s,a.ts.length-o.1<s/\oH fn d a p=zf fn d a s o.2.1 o.1) ?_ (f,F,_) ⟨l,i,h,a.ts.length,by show a.ts.length-f<a.ts.length;omega,by rw[oH,Q]⟩
  rintro⟨f,F,z⟩ ⟨l,i,h,s,K,e⟩;have l:p<f:=l;have i:f<a.ts.length:=i;have h:je F z:=h;have K:a.ts.length-f<s:=K;have e:oH fn d a p=zf fn d a s F f:=e;obtain⟨ac,ae,ad,U,I,Y,c,S,rfl⟩:=h.eight;obtain⟨s,rfl⟩:∃W,s=W+1:=⟨s-1,om⟩;rw[zf]at e;cases n:xj (a.tok f) d with
  |none=>
   rw[n]at e;refine TG r i d L (Qh n) 0 b j Z ?_;refine a8 1 (dQ e h)
  |some ai=>
   rw[n]at e;obtain⟨R,P,rfl,D,G⟩:=vS n;have y:=r.step i D;refine Qi i d L P D G 0 b j Z ?_;refine dK a f (a.tok f) (bY i) om 0 Z ?_;have H:eu (a.tok f) f=f+1:=by rw[eu,if_neg (sL D)]
   rw[H];have N:nth (eW d) R=some [.str d[R]]:=by rw[ck,eW,List.getElem?_map,aeO P];rfl
   repeat first|refine bZ rfl ?_|refine cc _ N ?_|refine cg q ?_
   repeat refine cf ?_
   refine cg q ?_;refine t.call (f+1) om y 0 _ _ ?_ (fun B d2 q2 w x=>?_) (fun M Q q2 w=>?_)
   ·exact Z
   ·obtain⟨m,O⟩:=t.lt (f+1) B q2 om y w;rw[w]at e;obtain⟨ag,ab,ah,v,X,aa,E,u,rfl⟩:=x.eight;intro af;repeat refine cf ?_
    refine⟨(q2,.mk 16 [] d[R] [] 0 [] [] [F,B],_),⟨by show p<q2;omega,O,.mk .nil .nil (.ps (.cons h (.cons x .nil))),s,by show a.ts.length-q2<s;omega,e⟩,by show a.ts.length-q2<a.ts.length-f;omega,.eD 3,Z,Z⟩
   ·rw[w]at e;refine a8 1 (cJ e)
 ·refine a8 1 (cJ (by rw[oH,k]))
def Rd.Ng(d:Rd):Prop:=∀b,(d.tok b).kind=3->(∃e,Lib.parseUintB 64 (d.tok b).text=.ok e)/\(d.tok b).text.length<281474976710656
theorem acL{s:cq}(e:s.length<281474976710656)(i:Lib.parseUintB 64 s=.ok g){σ:VS}{K:cO->VS->Prop}(d:K (.ret (.dS [.d (.int .u64 (aeM g)),.d .yx])) σ):bV C ca wB [cn s,bW 10,bW 64] σ K:=by
 refine Ak (args:=[.str s,.int .i64 (aeM 10),.int .i64 (aeM 64)]) (xs:=[.int .u64 (aeM g),.yx]) ?_ ?_ d
 ·have h:Nat.blt s.length 281474976710656=true:=by simpa [Nat.blt_eq]using e
  show(match Nat.blt s.length 281474976710656 with
   |true=>match Lib.parseUintB 64 s with
    |.ok g=>some (Value.tuple ⟨[.int .u64 (.ofNat g),.nilIface]⟩)
    |_=>none
   |false=>none)=_
  rw[h,i];rfl
 ·intro l b;simp only[List.mem_cons,List.not_mem_nil,or_false]at b;rcases b with rfl|rfl<;>rfl
theorem Qj(t:a.Wf)(j:a.Ng)(b p:Nat)(i:p<a.ts.length)(n:b=9223372036854775807∨b=9223372036854775808):
  bV C ca tC [.bp 0 0,.d (.int .u64 (aeM b))] [dp a p] (K3 a (sT b a p)):=by
 have q:=t.len;refine cm ?_;refine eF a p _ (bY i) 0 Z ?_;refine se a p 3 _ (bY i) om 0 Z (fun f=>?_) (fun f=>?_)
 ·have h:eu (a.tok p) p=p+1:=by rw[eu,if_neg om]
  rw[h];obtain⟨⟨s,d⟩,o⟩:=j p f;refine acL o d ?_;apply aZ<;>intro l
  ·repeat refine de ?_
   refine fK _ (a.tok p).off 2 ?_;refine a8 1 (cJ (by rw[sT,if_neg om,d];dsimp only;rw[if_pos (ee l)]))
  ·repeat refine de ?_
   have e:¬b<s:=by have:=dq l;omega
   rcases n with rfl|rfl
   ·refine a8 1 (dQ (by rw[sT,if_neg om,d];dsimp only;rw[if_neg e,if_neg om]) (.mk .nil .nil .nil))
   ·refine a8 1 (dQ (by rw[sT,if_neg om,d];dsimp only;rw[if_neg e,if_pos rfl]) (.mk .nil .nil .nil))
 ·refine a8 1 (cJ (by rw[sT,if_pos f]))
theorem gZ(n:a.Wf)(s:cq){p:Nat}(e:p<a.ts.length)(b d i:Nat){σ:VS}{K:cO->VS->Prop}(f:nth σ i=some (dp a p))(j:c5 (a.tok p) s=true->p+1<a.ts.length->K (.ret (.dS [])) (σ.set i (dp a (p+1))))(l:c5 (a.tok p) s=false->∀o,K (.eH (dt (a.tok p).off 3)) (σ.set i (dp a o))):
  bV C ca wQ [.bp i 0,.d (.ps b 0 1 d (eW [s]))] σ K:=by
 refine ep a n [s] (by show 1<4294967296;decide) p e b d i f ?_;cases h:c5 (a.tok p) s with
 |true=>rw[cu,if_pos h];exact j h (n.step e h)
 |false=>rw[cu,if_neg (by rw[h];decide)];exact l h
theorem qX(n:(C.ff.get g).isSome=true)(f:List cq)(s:f.length<4294967296)(y:a.Wf){fn:Nat->PR Ex}{p:Nat}(t:mA g fn a p)(o:p<a.ts.length)(b i j:Nat){σ:VS}{K:cO->VS->Prop}(l:nth σ j=some (dp a p)) 
  (k1:∀w d q,oH fn f a p=.ok w q->je w d->K (.ret (.agg (d.map V.d))) (σ.set j (dp a q))) (k2:∀off e q,oH fn f a p=.bad off e->K (.eH (dt off e)) (σ.set j (dp a q))):
  bV C ca tw [.bp j 0,.fn g [.bp j 0] [],.d (.ps b 0 1 i (eW f))] σ K:=by
 refine bV.one (dM:=[.bp 0 0,.fn g [.bp 0 0] [],.d (.ps b 0 1 i (eW f))]) (P:=Qg a (oH fn f a p)) (Mz n f s y t o b i) j l Z Z Z (fun D x h=>?_);unfold Qg at h;exact OV
theorem acM(n:a.Wf){fn:Nat->PR Ex}{lo:Nat}(b:mA uU fn a lo):mA yZ (oH fn [[42]] a) a lo:=by
 refine mA.of (B4 n (fun l i d o=>b.lt l i d o)) (fun l h f=>?_);refine cv Wp (fun _=>Z) ?_;intro p;refine qX Z [[42]] dc n (b.up h) f p _ 0 Z (fun i s d e hd=>?_) (fun j q d e=>?_)
 ·exact R2
 ·refine a8 1 (cJ e)
theorem acN(n:a.Wf){fn:Nat->PR Ex}{lo:Nat}(b:mA yZ fn a lo):mA yY (oH fn [[43],[45],[43,43]] a) a lo:=by
 refine mA.of (B4 n (fun l i d o=>b.lt l i d o)) (fun l h f=>?_);refine cv Wp (fun _=>Z) ?_;intro p;refine qX Z [[43],[45],[43,43]] dc n (b.up h) f p _ 0 Z (fun i s d e hd=>?_) (fun j q d e=>?_)
 ·exact R2
 ·refine a8 1 (cJ e)
theorem acO(n:a.Wf){fn:Nat->PR Ex}{lo:Nat}(b:mA yX fn a lo):mA yR (oH fn [[97,110,100]] a) a lo:=by
 refine mA.of (B4 n (fun l i d o=>b.lt l i d o)) (fun l h f=>?_);refine cv Wp (fun _=>Z) ?_;intro p;refine qX Z [[97,110,100]] dc n (b.up h) f p _ 0 Z (fun i s d e hd=>?_) (fun j q d e=>?_)
 ·exact R2
 ·refine a8 1 (cJ e)
theorem adS(n:a.Wf){fn:Nat->PR Ex}{lo:Nat}(b:mA yR fn a lo):mA qN (oH fn [[111,114]] a) a lo:=by
 refine mA.of (B4 n (fun l i d o=>b.lt l i d o)) (fun l h f=>?_);refine cv Wp (fun _=>Z) ?_;intro p;refine qX Z [[111,114]] dc n (b.up h) f p _ 0 Z (fun i s d e hd=>?_) (fun j q d e=>?_)
 ·exact R2
 ·refine a8 1 (cJ e)
def acP:Nat->Bool:=fun b=>aeu b 8||aeu b 18||aeu b 14||aeu b 24||aeu b 25
variable{r:Nat->PR Ex}
theorem Qk(D:a.Wf){p:Nat}(e:mA cR r a p)(s:p<a.ts.length):
  bV C ca sF [.bp 0 0] [dp a p] (K3 a (xI r a p)):=by
 have I:=D.len;refine cv acP (fun _=>Z) ?_;refine kH a p _ (bY s) om 0 Z (fun b=>?_) (fun b=>?_)
 ·have o:p+1<a.ts.length:=D.go p _ (bY s) om;intro Q;refine gZ D [61] o Q _ 0 Z (fun d i=>?_) (fun d y=>?_)
  ·repeat refine ch ?_
   refine e.call (p+1+1) om i 0 _ _ Z (fun U V y l n=>?_) (fun t F y l=>?_)
   ·obtain⟨N,x⟩:=e.lt _ _ _ om i l;obtain⟨O,R,P,J,q,K,L,H,rfl⟩:=n.eight;intro S;repeat refine cf ?_
    intro G;refine gZ D [105,110] x G _ 0 Z (fun f w=>?_) (fun f y=>?_)
    ·repeat refine ch ?_
     refine e.call (y+1) om w 0 _ _ Z (fun W d2 q2 j h=>?_) (fun t F q2 j=>?_)
     ·obtain⟨O,R,P,J,q,K,L,H,rfl⟩:=h.eight;intro T;repeat refine cf ?_
      intro M;repeat refine cf ?_
      refine a8 1 (dQ (by simp only[xI,dh,b,fj,cu,d,l,f,j,ne_eq,not_true,if_false,if_true,PR.map]) (.mk .nil .nil (.ps (.cons n (.cons h .nil)))))
     ·refine a8 1 (cJ (by simp only[xI,dh,b,fj,cu,d,l,f,j,ne_eq,not_true,if_false,if_true,PR.map]))
    ·refine a8 1 (cJ (by simp only[xI,dh,b,fj,cu,d,l,f,ne_eq,not_true,if_false,if_true,abL,PR.map]))
   ·refine a8 1 (cJ (by simp only[xI,dh,b,fj,cu,d,l,ne_eq,not_true,if_false,if_true]))
  ·refine a8 1 (cJ (by simp only[xI,dh,b,fj,cu,d,ne_eq,not_true,if_false,abL]))
 ·refine a8 1 (cJ (by simp only[xI,dh,b,ne_eq,not_false_eq_true,if_true]))
variable{k:List cH} {v:List Ex}
theorem FL(f:Nat)(n:cq)(d:D){types:List Ty}(j:fA types d)(b:jt v k):
  bV C ca jL [.agg (jx f n d (.d .ci) (.d .ci)),kV 0 8 k,.d .ci] [kO 8 k] fun p e=>∃q,e=[q]/\fW 0 q=true/\cM p=true/\∃o,je (kq f n types v []) o/\p=.ret (.agg (o.map V.d)):=by
 have i:kq f n types v []=.mk f [] n [] 0 types [] v:=by simp[kq,cG]
 rw[i];refine cm ?_;refine cj ?_;refine cj ?_;refine cd.loop ?_;refine cj ?_;refine cd.loop ?_;refine cd.loop ?_;rcases k with _|⟨l,h⟩;all_goals
  refine cd.loop ?_;first
   |refine cU.freeze 0 (es:=8) (l:=l::h) rfl (gk _) (by repeat' (first|exact tv|exact fun _=>⟨rfl,by simp⟩|refine And.intro ?_ ?_)) (fun t=>?_)
   |skip
  refine cU.drop 1 Z Z Z (cU.now Z ⟨_,Z,Z,Z,_,.mk j .nil ?_,Z⟩);first|exact b.TD|exact b.psD sm
theorem Dq{f:FuncId}{dM d:List V}{o:cN}{P:cO->cN->Prop}(y:bV C ca f dM [o] fun l n=>∃b,n=[b]/\fW 0 b=true/\cM l=true/\P l b)(i:Nat){σ:VS}{K:cO->VS->Prop}(hσ:nth σ i=some o)(hc:fW 0 o=true)(e:fu 1 dM=true)(s:d=hU (jT [i] σ.length) dM)(p:∀l b,P l b->K l (σ.set i b)):
  bV C ca f d σ K:=by
 refine y.frame [i] Z sm (fun j i' h=>?_) e s (fun w q h _=>?_)
 ·exact Za
 ·obtain⟨b,rfl,x,t,D⟩:=h;rw[mv _ _ t];simp only[List.map_cons,List.map_nil,fh _ _ x,merge,List.append_nil];exact p w b D
theorem Oj{π:Nat->Nat}(l:List eo)(p:eo):some (pg (l.map eo.n++[p.n]))=some (dF π (pg ((l++[p]).map eo.n))):=by
 exact X5
theorem vT{xs:List FE}{l:List eo}{x:FE}(h:(xs.map FE.n).Nodup)(hX:xs.map FE.n=l.map eo.n)(zH:x.n ∉ l.map eo.n):((xs++[x]).map FE.n).Nodup:=by
 exact YZ
variable{c:Nat->Nat}
theorem zg(b:FE)(d:c g=u):some (cN.box [V.ms u 9 0 1 1])=some (dF c (.box [kV g 9 (([]++[b]:List FE).map pe)])):=by
 subst d;rfl
theorem vU(d:FE)(b:List FE)(e:FE)(f:c g=u):some (cN.box [V.ms u 9 0 ((b.map pe).length+1+1) ((b.map pe).length+1+1)])=some (dF c (.box [kV g 9 (((d::b)++[e]).map pe)])):=by
 subst f;simp[kV,dF,hU,gW]
theorem zh(b:FE):some (cN.row 9 [(pe b).map V.d])=some (dF c (kO 9 (([]++[b]:List FE).map pe))):=lj c 9 (pe b)
theorem vV(d:FE)(b:List FE)(e:FE):some (cN.row 9 (List.take ((b.map pe).length+1) (List.drop 0 (aeP (fun f=>aeP V.d f) (pe d::b.map pe)))++[(pe e).map V.d]))=some (dF c (kO 9 (((d::b)++[e]).map pe))):=by
 rw[List.map_append];exact jQ c 9 (pe d) (b.map pe) (pe e)
theorem B5(l:List cH)(b:Nat.blt u g=true):fW g (.box [kV u 9 l])=true:=by
 show(bd g (kV u 9 l)&&true)=true;rw[kZ 9 l b];rfl
def GvS(i:Rd)(h:PR Ex)(e:cO)(d:VS):Prop:=∃b f,d=[.box b,f]/\cM e=true/\fu 0 b=true/\fW 0 f=true/\Qg i h e b
variable{A:VS} {z:PR Ex}
theorem ZP{f:Ex}{b:cH}{o:cN}(h:z=.ok f g)(e:je f b)(d:fW 0 o=true):cU 2 (.ret (.agg (b.map V.d))) (dp a g::o::A) (GvS a z):=by
 subst h;exact cU.drop 2 Z (zc Z (lp 2 _ d)) (qW 2 b) (cU.now Z ⟨_,_,Z,qW 0 b,Z,d,Z,b,e,Z⟩)
theorem Dr{o:cN}(d:z=.bad u B)(b:fW 0 o=true):cU 2 (.eH (dt u B)) (dp a g::o::A) (GvS a z):=by
 subst d;exact cU.drop 2 Z (zc Z (lp 2 _ b)) Z (cU.now Z ⟨_,_,Z,Z,Z,b,g,Z,Z⟩)
variable{E:D}
theorem zi{n:cq}{d:V}(e:Nat.blt B g=true)(b:bd g d=true):fu g [.agg (jx u n E (.d .ci) (.d .ci)),kV B 8 k,d]=true:=by
 show(bd g (.agg (jx u n E (.d .ci) (.d .ci)))&&(bd g (kV B 8 k)&&(bd g d&&true)))=true;rw[kZ 8 k e,b];rfl
theorem vW{h d i':Nat}{n:cq}{e v':V}(f:c d=i')(b:v'=gW c e): [V.agg (jx h n E (.d .ci) (.d .ci)),kV i' 8 k,v']=hU c [.agg (jx h n E (.d .ci) (.d .ci)),kV d 8 k,e]:=by
 subst f b;show _=[gW c _,gW c (kV d 8 k),gW c e];rw[nB];rfl
theorem FM(d:FE)(b:List FE)(e:FE):some (cN.row 9 (List.take ((b.map pe).length+1) (List.drop 0 (aeP (fun f=>aeP V.d f) (pe d::b.map pe)))++[(pe e).map V.d]))=some (.row 9 (dg true ((d::b)++[e]))):=by
 rw[List.drop_zero,List.take_of_length_le sm];simp[dg,zb,Function.comp_def]
theorem vX{p:Nat}{s:cq}(b:c5 (a.tok p) s=true):cu a [s] p=.ok () (p+1):=by
 rw[cu,if_pos b];rfl
abbrev gEl(s:cq)(b:Nat)(d:cH):FE:=⟨s,0,[],[],.ci,.ci,false,[],.ps b 0 8 1 [d]⟩
def J2(xs:List FE):List cH:=xs.map pe
def ZQ:Nat->Bool:=fun b=>aeu b 18
def adT:Nat->Bool:=fun b=>aeu b 10||aeu b 16||aeu b 17||aeu b 21
theorem J3(ak:a.Wf)(b:cq)(s:Nat){p:Nat}(u:mA cR r a p)(aq:p<a.ts.length)(ac:jt v k)(m:v.length<=1):
  bV C ca uV [.bp 0 0,.agg (jx s [] .ci (.d .ci) (.d .ci)),kV 1 8 k,cn b] [dp a p,kO 8 k] (GvS a (jP r a b s v p)):=by
 have ay:=ak.len;refine cm ?_;refine bV.body ZQ (fun _=>Z) ?_;refine cI a p (a.tok p) b (bY aq) om 0 Z (fun D=>?_) (fun D=>?_)
 ·refine Dq (P:=fun K x=>fW 0 x=true/\∃I,je (kq s [] [] v []) I/\K=.ret (.agg (I.map V.d))) (dM:=[.agg (jx s [] .ci (.d .ci) (.d .ci)),kV 0 8 k,.d .ci]) ((FL s [] .ci .nil ac).mono fun K z D=>by obtain⟨x,w,L,G,M⟩:=D;exact⟨x,w,L,G,L,M⟩) 1 Z (gr 8 k) (zi Z Z) (vW Z Z) (fun K x L=>?_);obtain⟨I,i,rfl⟩:=L.2;obtain⟨U,aw,ax,W,q,T,X,Y,rfl⟩:=i.eight;exact ZP (by rw[jP,gA,if_pos D];rfl) i L.1
 ·refine cD (dB:=[(0,.bp 0 0),(1,cn [44]),(2,cn b),(3,.fn r6 [] [.bp 2 0,.bp 7 0,.bp 5 0])]) ?_;refine cd.gone ?_;refine cd.iter (fun _:Nat×List eo×List FE=>[(0,.bp 0 0),(1,cn [44]),(2,cn b),(3,.fn r6 [] [.bp 2 0,.bp 7 0,.bp 5 0])])
   (fun h=>[dp a h.1,kO 8 k,.box [.bp 0 0],.box (jx s [] .ci (.d .ci) (.d .ci)),.box jz,.box [kV 8 9 (J2 h.2.2)],pg (h.2.1.map eo.n),.box [.map 6],kO 9 (J2 h.2.2)]) (fun h=>a.ts.length-h.1)
   (fun h=>p<=h.1/\h.1<a.ts.length/\h.2.2.length<=h.1/\kI h.2.1 h.2.2/\(h.2.2.map FE.n).Nodup/\(∀y∈h.2.1,y.val.length<=1)/\∃F,a.ts.length-h.1<=F/\ji (lP r a) a b a.ts.length [] p=ji (lP r a) a b F h.2.1 h.1) ?_ (p,[],[]) ⟨aet _,aq,Nat.zero_le _,.nil,List.nodup_nil,by simp,_,by show a.ts.length-p<=a.ts.length;omega,rfl⟩
  rintro⟨e,R,J⟩ ⟨ar,am,av,aj,ai,ag,F,ae,ap⟩;have aK:p<=e:=ar;have ao:e<a.ts.length:=am;have H:J.length<=e:=av;have ad:kI R J:=aj;have au:(J.map FE.n).Nodup:=ai;have hv:∀y∈R,y.val.length<=1:=ag;have aM:a.ts.length-e<=F:=ae;have n:ji (lP r a) a b a.ts.length [] p=ji (lP r a) a b F R e:=ap;clear ar am av aj ai ag ae ap;obtain⟨F,rfl⟩:∃aF,F=aF+1:=⟨F-1,om⟩;have aH:=ad.names;have d:jP r a b s v p=(ji (lP r a) a b (F+1) R e).map (kq s [] [] v):=by rw[jP,gA,if_neg (by rw[D];decide),n]
  rw[ji]at d n;refine bV.body adT (fun _=>Z) ?_;refine p7 a ak e ao (R.map eo.n) 0 6 dc Z Z (fun l f=>?_) (fun l f=>?_) (fun l=>?_)
  ·have al:e+1<a.ts.length:=ak.go e _ (bY ao) om;intro aB;refine gZ ak [58] al aB _ 0 Z (fun w c=>?_) (fun w aA=>?_)
   ·repeat refine ch ?_
    refine u.call (e+1+1) om c 0 _ _ ?_ (fun an I q1 S i=>?_) (fun aJ aL q1 S=>?_)
    ·exact Z
    ·obtain⟨aG,g⟩:=u.lt _ _ _ om c S;obtain⟨U,aw,ax,W,q,T,X,Y,rfl⟩:=i.eight;intro aN;repeat refine cf ?_
     intro j;repeat refine cf ?_
     intro aO;have O:kI (R++[⟨(a.tok e).text,[],cV,false,[an]⟩]) (J++[gEl (a.tok e).text j [.int .i64 (aeM U),.str aw,.str ax,.str W,.int .i64 q,T,X,Y]]):=ad.snoc rfl rfl rfl (.mk .nil .nil) (.ps (.cons i .nil));have o:=vT (x:=gEl (a.tok e).text j [.int .i64 (aeM U),.str aw,.str ax,.str W,.int .i64 q,T,X,Y]) au aH f;have N:∀y∈R++[(⟨(a.tok e).text,[],cV,false,[an]⟩:eo)],y.val.length<=1:=by
      exact aak
     have ah:lP r a R e=.ok (R++[⟨(a.tok e).text,[],cV,false,[an]⟩]) q1:=by simp only[lP,eJ,l,ne_eq,not_true,if_false,f,fj,cu,w,if_true,S,PR.map]
     rw[ah]at d n;dsimp only at d n;rcases J with _|⟨A,t⟩;all_goals
      first
       |refine a6 rfl (a6 ⟨aev rfl,aev rfl⟩ (a7 rfl ?_))
       |refine a6 rfl (a6 ⟨rfl,rfl,by simp,aet _,rB (by simp only[aeN,List.length_map]at H⊢;omega) (aet _) (aev rfl)⟩ (a7 rfl (a7 (lk _) ?_)))
      refine cI a q1 (a.tok q1) b (bY g) om 0 ?_ (fun G=>?_) (fun G=>?_)
      ·exact Z
      ·rw[if_pos G]at d;first
        |refine bV.two (dM:=[.agg (jx s [] .ci (.d .ci) (.d .ci)),kV 1 8 k,.ms 0 9 0 1 1]) (P:=fun K _ x=>fW 0 x=true/\∃I,je (kq s [] [] v _) I/\K=.ret (.agg (I.map V.d))) ((sQ s [] .ci .nil ac O o N m 1 rfl dc).mono (fun K z D=>by obtain⟨p,x,B,ab,Q,aa,E⟩:=D;exact⟨p,x,B,aa,ab,Q,Q,E⟩)) 10 1 dc rfl rfl (jv 0 9 _) (gr 8 k) (zi rfl rfl) (vW rfl rfl) (fun K aE aD D=>?_)
        |refine bV.two (dM:=[.agg (jx s [] .ci (.d .ci) (.d .ci)),kV 1 8 k,.ms 0 9 0 ((t.map pe).length+1+1) ((t.map pe).length+1+1)]) (P:=fun K _ x=>fW 0 x=true/\∃I,je (kq s [] [] v _) I/\K=.ret (.agg (I.map V.d))) ((sQ s [] .ci .nil ac O o N m ((t.map pe).length+1+1) sm (by simp only[aeN,List.length_map]at H⊢;omega)).mono (fun K z D=>by obtain⟨p,x,B,ab,Q,aa,E⟩:=D;exact⟨p,x,B,aa,ab,Q,Q,E⟩)) 10 1 dc (FM A t (gEl (a.tok e).text j _)) rfl (jv 0 9 _) (gr 8 k) (zi rfl rfl) (vW rfl rfl) (fun K aE aD D=>?_)
       obtain⟨az,I,i,rfl⟩:=D;obtain⟨U,aw,ax,W,q,T,X,Y,rfl⟩:=i.eight;exact ZP (by rw[d];rfl) i az
      ·rw[if_neg (by rw[G];decide)]at d n;intro aC;refine gZ ak [44] g aC _ 0 ?_ (fun M af=>?_) (fun M aA=>?_)
       ·exact Z
       ·rw[vX M]at n;refine⟨(q1+1,_,_),⟨by show p<=q1+1;omega,af,by simp only[List.length_append,aeN,List.length_nil]at H⊢;omega,O,o,N,F,by show a.ts.length-(q1+1)<=F;omega,n⟩,by show a.ts.length-(q1+1)<a.ts.length-e;omega,.pick 8 [0,1,2,3,4,5,6,7,10] ⟨Z,Z,Z,Z,tv⟩ Z Z Z Z Z dc ⟨Z,Z,HB _ _ _,gH _ _ _,Z,Z,Z,Z,Z,Z,by first|exact zg (gEl (a.tok e).text j _) rfl|exact vU A t (gEl (a.tok e).text j _) rfl,B5 _ Z,Oj R ⟨(a.tok e).text,[],cV,false,[an]⟩,lp _ _ (iM _),Z,Z,by first|exact zh (gEl (a.tok e).text j _)|exact vV A t (gEl (a.tok e).text j _),gH _ _ _,tv⟩,Z,Z⟩
       ·exact Dr (by rw[d];simp only[cu,M,if_false,abL,PR.map]) (gr 8 k)
    ·exact Dr (by rw[d];simp only[lP,eJ,l,ne_eq,not_true,if_false,f,fj,cu,w,if_true,S,PR.map]) (gr 8 k)
   ·exact Dr (by rw[d];simp only[lP,eJ,l,ne_eq,not_true,if_false,f,fj,cu,w,abL,PR.map]) (gr 8 k)
  ·exact Dr (by rw[d];simp only[lP,eJ,l,ne_eq,not_true,if_false,f,if_true,PR.map]) (gr 8 k)
  ·exact Dr (by rw[d];simp only[lP,eJ,l,ne_eq,not_false_eq_true,if_true,PR.map]) (gr 8 k)
theorem aaT(e:Rd)(D:e.Wf)(f p:Nat)(F:p<e.ts.length)(G:ef (dl e f) e (p+1))(b:Nat)(d:cq)(h:Nat)(j:e.ts[p]?=some ⟨b,d,h⟩)(hF:dl e (f+1) p=hO (dl e f) e b d h (p+1))(t:b=5)(q:d=[105,110,116]):
  bV C ca dj [.bp 0 0] [dp e p] fun x n=>∃i,n=[.box i]/\cM x=true/\fu 0 i=true/\B2 e (dl e (f+1) p) x i:=by
 have w:=D.len;have l:b≠0->p+1<e.ts.length:=fun s=>D.go p _ j s;have o:b≠0->eu ⟨b,d,h⟩ p=p+1:=fun s=>if_neg s;refine cv qm (fun _=>Z) ?_;refine dK e p _ j om 0 Z ?_;first|have y:p+1<e.ts.length:=l om|skip
 first|rw[o om]|skip
 subst t;subst q;have Ik:eN .string (cn [105,110,116]) k0 0=some (some (0,bW 2)):=rfl;exact NG
theorem aaU(e:Rd)(D:e.Wf)(f p:Nat)(F:p<e.ts.length)(G:ef (dl e f) e (p+1))(b:Nat)(d:cq)(h:Nat)(j:e.ts[p]?=some ⟨b,d,h⟩)(hF:dl e (f+1) p=hO (dl e f) e b d h (p+1))(t:b=5)(q:d=[98,111,111,108]):
  bV C ca dj [.bp 0 0] [dp e p] fun x n=>∃i,n=[.box i]/\cM x=true/\fu 0 i=true/\B2 e (dl e (f+1) p) x i:=by
 have w:=D.len;have l:b≠0->p+1<e.ts.length:=fun s=>D.go p _ j s;have o:b≠0->eu ⟨b,d,h⟩ p=p+1:=fun s=>if_neg s;refine cv qm (fun _=>Z) ?_;refine dK e p _ j om 0 Z ?_;first|have y:p+1<e.ts.length:=l om|skip
 first|rw[o om]|skip
 subst t;subst q;have Ik:eN .string (cn [98,111,111,108]) k0 0=some (some (1,bW 3)):=rfl;exact NG
theorem aaV(e:Rd)(D:e.Wf)(f p:Nat)(F:p<e.ts.length)(G:ef (dl e f) e (p+1))(b:Nat)(d:cq)(h:Nat)(j:e.ts[p]?=some ⟨b,d,h⟩)(hF:dl e (f+1) p=hO (dl e f) e b d h (p+1))(t:b=5)(q:d=[116,101,120,116]):
  bV C ca dj [.bp 0 0] [dp e p] fun x n=>∃i,n=[.box i]/\cM x=true/\fu 0 i=true/\B2 e (dl e (f+1) p) x i:=by
 have w:=D.len;have l:b≠0->p+1<e.ts.length:=fun s=>D.go p _ j s;have o:b≠0->eu ⟨b,d,h⟩ p=p+1:=fun s=>if_neg s;refine cv qm (fun _=>Z) ?_;refine dK e p _ j om 0 Z ?_;first|have y:p+1<e.ts.length:=l om|skip
 first|rw[o om]|skip
 subst t;subst q;have Ik:eN .string (cn [116,101,120,116]) k0 0=some (some (2,bW 4)):=rfl;exact NG
theorem aaW(e:Rd)(D:e.Wf)(f p:Nat)(F:p<e.ts.length)(G:ef (dl e f) e (p+1))(b:Nat)(d:cq)(h:Nat)(j:e.ts[p]?=some ⟨b,d,h⟩)(hF:dl e (f+1) p=hO (dl e f) e b d h (p+1))(t:b=5)(q:d=[97,110,121]):
  bV C ca dj [.bp 0 0] [dp e p] fun x n=>∃i,n=[.box i]/\cM x=true/\fu 0 i=true/\B2 e (dl e (f+1) p) x i:=by
 have w:=D.len;have l:b≠0->p+1<e.ts.length:=fun s=>D.go p _ j s;have o:b≠0->eu ⟨b,d,h⟩ p=p+1:=fun s=>if_neg s;refine cv qm (fun _=>Z) ?_;refine dK e p _ j om 0 Z ?_;first|have y:p+1<e.ts.length:=l om|skip
 first|rw[o om]|skip
 subst t;subst q;have Ik:eN .string (cn [97,110,121]) k0 0=some (some (3,bW 0)):=rfl;exact NG
theorem aaX(e:Rd)(D:e.Wf)(f p:Nat)(F:p<e.ts.length)(G:ef (dl e f) e (p+1))(b:Nat)(d:cq)(h:Nat)(j:e.ts[p]?=some ⟨b,d,h⟩)(hF:dl e (f+1) p=hO (dl e f) e b d h (p+1))(t:b=5)(q:d=[110,111,110,101]):
  bV C ca dj [.bp 0 0] [dp e p] fun x n=>∃i,n=[.box i]/\cM x=true/\fu 0 i=true/\B2 e (dl e (f+1) p) x i:=by
 have w:=D.len;have l:b≠0->p+1<e.ts.length:=fun s=>D.go p _ j s;have o:b≠0->eu ⟨b,d,h⟩ p=p+1:=fun s=>if_neg s;refine cv qm (fun _=>Z) ?_;refine dK e p _ j om 0 Z ?_;first|have y:p+1<e.ts.length:=l om|skip
 first|rw[o om]|skip
 subst t;subst q;have Ik:eN .string (cn [110,111,110,101]) k0 0=some (some (4,bW 1)):=rfl;exact NG
theorem aaY(e:Rd)(H:e.Wf)(f p:Nat)(J:p<e.ts.length)(y:ef (dl e f) e (p+1))(b:Nat)(d:cq)(h:Nat)(j:e.ts[p]?=some ⟨b,d,h⟩)(hF:dl e (f+1) p=hO (dl e f) e b d h (p+1))(D:b=5)(s:d=[108,105,115,116]):
  bV C ca dj [.bp 0 0] [dp e p] fun I w=>∃i,w=[.box i]/\cM I=true/\fu 0 i=true/\B2 e (dl e (f+1) p) I i:=by
 have F:=H.len;have t:b≠0->p+1<e.ts.length:=fun G=>H.go p _ j G;have n:b≠0->eu ⟨b,d,h⟩ p=p+1:=fun G=>if_neg G;refine cv qm (fun _=>Z) ?_;refine dK e p _ j om 0 Z ?_;first|have o:p+1<e.ts.length:=t om|skip
 first|rw[n om]|skip
 subst D;subst s;have x:eN .string (cn [108,105,115,116]) k0 0=some none:=rfl;repeat refine cf ?_
 refine cj ?_;refine cc none Z ?_;refine cc none Z ?_;refine cc none Z ?_;refine cc none Z ?_;refine cc none Z ?_;refine cc _ x ?_;repeat refine cf ?_
 refine ph e H (dl e f) (p+1) o y 0 ?_ (fun R N q e1 l=>?_) (fun h S q e1=>?_)
 ·exact Z
 ·obtain⟨M,Q,O,L,K,rfl⟩:=l.cZ;intro P;refine a8 1 ⟨_,Z,Z,Z,?_⟩;rw[hF];simp only[hO,if_true,if_false,reduceIte,abK,PR.map,e1];exact⟨Z,_,.mk (.ps (.cons l .nil) sm) .nil,Z⟩
 ·exact Si
theorem aaZ(i:Rd)(H:i.Wf)(f p:Nat)(V:p<i.ts.length)(F:ef (dl i f) i (p+1))(d:Nat)(b:cq)(h:Nat)(x:i.ts[p]?=some ⟨d,b,h⟩)(s:dl i (f+1) p=hO (dl i f) i d b h (p+1))(O:d=5)(e:b=[102,110]):
  bV C ca dj [.bp 0 0] [dp i p] fun S K=>∃o,K=[.box o]/\cM S=true/\fu 0 o=true/\B2 i (dl i (f+1) p) S o:=by
 have P:=H.len;have J:d≠0->p+1<i.ts.length:=fun R=>H.go p _ x R;have I:d≠0->eu ⟨d,b,h⟩ p=p+1:=fun R=>if_neg R;refine cv qm (fun _=>Z) ?_;refine dK i p _ x om 0 Z ?_;first|have y:p+1<i.ts.length:=J om|skip
 first|rw[I om]|skip
 subst O;have n:u9 b=none:=by rw[e];rfl
 have j:b≠[108,105,115,116]:=by rw[e];decide
 have M:=Dp n;repeat refine cf ?_
 refine cj ?_;refine cc none Z ?_;refine cc none Z ?_;refine cc none Z ?_;refine cc none Z ?_;refine cc none Z ?_;refine cc _ M ?_;repeat refine cf ?_
 refine a7 (decide_eq_false j) ?_;repeat refine a7 (decide_eq_false j) ?_
 refine cg (decide_eq_true e) ?_;repeat refine cg (decide_eq_true e) ?_
 intro k;refine ep i H [[40]] dc (p+1) y _ _ 0 ?_ ?_
 ·exact Z
 cases l:cu i [[40]] (p+1)with
 |bad h U=>
  intro Q;refine a8 1 ⟨_,Z,Z,Z,?_⟩;rw[s];simp only[hO,if_true,if_false,reduceIte,abK,PR.map,n,j,e,l];exact⟨Q,Z,Z⟩
 |ok _ q1=>
  have w:=da H _ _ _ y l;have D:p+1<=q1:=by rw[cL _ _ _ l];omega
  refine u7 i H (dl i f) [44] [41] true q1 w (F.up D) 0 ?_ (fun u c q2 q N=>?_) (fun h U Q q=>?_)
  ·exact Z
  ·obtain⟨T,L⟩:=sR H (F.up D).lt w q;refine F.call q2 om L 0 _ _ ?_ (fun r d2 q3 G t=>?_) (fun h U q3 G=>?_)
   ·exact Z
   ·obtain⟨a,m,g,Y,W,rfl⟩:=t.cZ;intro X;refine a8 1 ⟨_,Z,Z,Z,?_⟩;rw[s];simp only[hO,if_true,if_false,reduceIte,abK,PR.map,n,j,e,l,q,G];exact⟨Z,_,.mk (.ps (.cons t .nil) sm) N,Z⟩
   ·refine a8 1 ⟨_,Z,Z,Z,?_⟩;rw[s];simp only[hO,if_true,if_false,reduceIte,abK,PR.map,n,j,e,l,q,G];exact⟨q3,Z,Z⟩
  ·refine a8 1 ⟨_,Z,Z,Z,?_⟩;rw[s];simp only[hO,if_true,if_false,reduceIte,abK,PR.map,n,j,e,l,q];exact⟨Q,Z,Z⟩
theorem aa0(e:Rd)(I:e.Wf)(f p:Nat)(K:p<e.ts.length)(J:ef (dl e f) e (p+1))(d:Nat)(b:cq)(h:Nat)(l:e.ts[p]?=some ⟨d,b,h⟩)(D:dl e (f+1) p=hO (dl e f) e d b h (p+1))(x:d=5)(o:u9 b=none)(n:b≠[108,105,115,116])(j:b≠[102,110]):
  bV C ca dj [.bp 0 0] [dp e p] fun G t=>∃i,t=[.box i]/\cM G=true/\fu 0 i=true/\B2 e (dl e (f+1) p) G i:=by
 have y:=I.len;have s:d≠0->p+1<e.ts.length:=fun F=>I.go p _ l F;have q:d≠0->eu ⟨d,b,h⟩ p=p+1:=fun F=>if_neg F;refine cv qm (fun _=>Z) ?_;refine dK e p _ l om 0 Z ?_;first|have H:p+1<e.ts.length:=s om|skip
 first|rw[q om]|skip
 subst x;have w:=Dp o;repeat refine cf ?_
 refine cj ?_;refine cc none Z ?_;refine cc none Z ?_;refine cc none Z ?_;refine cc none Z ?_;refine cc none Z ?_;refine cc _ w ?_;repeat refine cf ?_
 refine a7 (decide_eq_false n) ?_;repeat refine a7 (decide_eq_false n) ?_
 refine a7 (decide_eq_false j) ?_;repeat refine a7 (decide_eq_false j) ?_
 refine fK _ h 3 ?_;refine a8 1 ⟨_,Z,Z,Z,?_⟩;rw[D];simp only[hO,if_true,if_false,reduceIte,abK,PR.map,o,n,j];exact⟨_,Z,Z⟩
theorem aa1(e:Rd)(G:e.Wf)(f p:Nat)(I:p<e.ts.length)(x:ef (dl e f) e (p+1))(b:Nat)(d:cq)(h:Nat)(j:e.ts[p]?=some ⟨b,d,h⟩)(hF:dl e (f+1) p=hO (dl e f) e b d h (p+1))(D:b=6)(o:d=[123]):
  bV C ca dj [.bp 0 0] [dp e p] fun H t=>∃i,t=[.box i]/\cM H=true/\fu 0 i=true/\B2 e (dl e (f+1) p) H i:=by
 have y:=G.len;have s:b≠0->p+1<e.ts.length:=fun F=>G.go p _ j F;have l:b≠0->eu ⟨b,d,h⟩ p=p+1:=fun F=>if_neg F;refine cv qm (fun _=>Z) ?_;refine dK e p _ j om 0 Z ?_;first|have n:p+1<e.ts.length:=s om|skip
 first|rw[l om]|skip
 subst D;subst o;have w:eN .string (cn [123]) k0 0=some none:=rfl;repeat refine cf ?_
 refine cj ?_;refine cc none Z ?_;refine cc none Z ?_;refine cc none Z ?_;refine cc none Z ?_;refine cc none Z ?_;refine cc _ w ?_;repeat refine cf ?_
 refine u7 e G (dl e f) [44] [125] false (p+1) n x 0 ?_ (fun L J q e1 hd=>?_) (fun h K q e1=>?_)
 ·exact Z
 ·exact Zf
 ·exact Si
theorem aa2(e:Rd)(G:e.Wf)(f p:Nat)(I:p<e.ts.length)(x:ef (dl e f) e (p+1))(b:Nat)(d:cq)(h:Nat)(j:e.ts[p]?=some ⟨b,d,h⟩)(hF:dl e (f+1) p=hO (dl e f) e b d h (p+1))(D:b=6)(o:d=[60]):
  bV C ca dj [.bp 0 0] [dp e p] fun H t=>∃i,t=[.box i]/\cM H=true/\fu 0 i=true/\B2 e (dl e (f+1) p) H i:=by
 have y:=G.len;have s:b≠0->p+1<e.ts.length:=fun F=>G.go p _ j F;have l:b≠0->eu ⟨b,d,h⟩ p=p+1:=fun F=>if_neg F;refine cv qm (fun _=>Z) ?_;refine dK e p _ j om 0 Z ?_;first|have n:p+1<e.ts.length:=s om|skip
 first|rw[l om]|skip
 subst D;subst o;have w:eN .string (cn [60]) k0 0=some none:=rfl;repeat refine cf ?_
 refine cj ?_;refine cc none Z ?_;refine cc none Z ?_;refine cc none Z ?_;refine cc none Z ?_;refine cc none Z ?_;refine cc _ w ?_;repeat refine cf ?_
 refine u7 e G (dl e f) [124] [62] false (p+1) n x 0 ?_ (fun L J q e1 hd=>?_) (fun h K q e1=>?_)
 ·exact Z
 ·exact Zf
 ·exact Si
theorem Wr(R:Rd)(w:R.Wf)(f p:Nat)(i:p<R.ts.length)(j:ef (dl R f) R (p+1))(kind:Nat)(text:cq)(off:Nat)(K5:R.ts[p]?=some ⟨kind,text,off⟩)(hF:dl R (f+1) p=hO (dl R f) R kind text off (p+1))(h6:kind=6)(hc:text≠[123])(hv:text≠[60])(Ik:eN .string (cn text) k0 0=some none):
  bV C ca dj [.bp 0 0] [dp R p] fun h d=>∃b,d=[.box b]/\cM h=true/\fu 0 b=true/\B2 R (dl R (f+1) p) h b:=by
 have e:=w.len;exact Ye
theorem Ws(R:Rd)(w:R.Wf)(f p:Nat)(l:p<R.ts.length)(n:ef (dl R f) R (p+1))(kind:Nat)(text:cq)(off:Nat)(K5:R.ts[p]?=some ⟨kind,text,off⟩)(hF:dl R (f+1) p=hO (dl R f) R kind text off (p+1))(h6:kind=6)(hc:text≠[123])(hv:text≠[60])(h e:Nat)(Ik:eN .string (cn text) k0 0=some (some (h,bW e))):
  bV C ca dj [.bp 0 0] [dp R p] fun j d=>∃b,d=[.box b]/\cM j=true/\fu 0 b=true/\B2 R (dl R (f+1) p) j b:=by
 have i:=w.len;exact Ye
theorem Wt(R:Rd)(w:R.Wf)(f p:Nat)(i:p<R.ts.length)(ht:ef (dl R f) R (p+1))(kind:Nat)(text:cq)(off:Nat)(K5:R.ts[p]?=some ⟨kind,text,off⟩)(hF:dl R (f+1) p=hO (dl R f) R kind text off (p+1))(h2:kind=2)(Ik:eN .string (cn text) k0 0=some none):
  bV C ca dj [.bp 0 0] [dp R p] fun h d=>∃b,d=[.box b]/\cM h=true/\fu 0 b=true/\B2 R (dl R (f+1) p) h b:=by
 have e:=w.len;exact Yb
theorem Wu(R:Rd)(w:R.Wf)(f p:Nat)(l:p<R.ts.length)(ht:ef (dl R f) R (p+1))(kind:Nat)(text:cq)(off:Nat)(K5:R.ts[p]?=some ⟨kind,text,off⟩)(hF:dl R (f+1) p=hO (dl R f) R kind text off (p+1))(h2:kind=2)(h e:Nat)(Ik:eN .string (cn text) k0 0=some (some (h,bW e))):
  bV C ca dj [.bp 0 0] [dp R p] fun j d=>∃b,d=[.box b]/\cM j=true/\fu 0 b=true/\B2 R (dl R (f+1) p) j b:=by
 have i:=w.len;exact Yb
theorem Wv(R:Rd)(w:R.Wf)(f p:Nat)(i:p<R.ts.length)(ht:ef (dl R f) R (p+1))(kind:Nat)(text:cq)(off:Nat)(K5:R.ts[p]?=some ⟨kind,text,off⟩)(hF:dl R (f+1) p=hO (dl R f) R kind text off (p+1))(h1:kind=1)(Ik:eN .string (cn text) k0 0=some none):
  bV C ca dj [.bp 0 0] [dp R p] fun h d=>∃b,d=[.box b]/\cM h=true/\fu 0 b=true/\B2 R (dl R (f+1) p) h b:=by
 have e:=w.len;exact X8
theorem Ww(R:Rd)(w:R.Wf)(f p:Nat)(l:p<R.ts.length)(ht:ef (dl R f) R (p+1))(kind:Nat)(text:cq)(off:Nat)(K5:R.ts[p]?=some ⟨kind,text,off⟩)(hF:dl R (f+1) p=hO (dl R f) R kind text off (p+1))(h1:kind=1)(h e:Nat)(Ik:eN .string (cn text) k0 0=some (some (h,bW e))):
  bV C ca dj [.bp 0 0] [dp R p] fun j d=>∃b,d=[.box b]/\cM j=true/\fu 0 b=true/\B2 R (dl R (f+1) p) j b:=by
 have i:=w.len;exact X8
theorem Wx(R:Rd)(w:R.Wf)(f p:Nat)(i:p<R.ts.length)(j:ef (dl R f) R (p+1))(kind:Nat)(text:cq)(off:Nat)(K5:R.ts[p]?=some ⟨kind,text,off⟩)(hF:dl R (f+1) p=hO (dl R f) R kind text off (p+1))(n5:kind≠5)(n6:kind≠6)(n2:kind≠2)(n1:kind≠1)(Ik:eN .string (cn text) k0 0=some none):
  bV C ca dj [.bp 0 0] [dp R p] fun h d=>∃b,d=[.box b]/\cM h=true/\fu 0 b=true/\B2 R (dl R (f+1) p) h b:=by
 have e:=w.len;exact Yc
theorem Wy(R:Rd)(w:R.Wf)(f p:Nat)(l:p<R.ts.length)(n:ef (dl R f) R (p+1))(kind:Nat)(text:cq)(off:Nat)(K5:R.ts[p]?=some ⟨kind,text,off⟩)(hF:dl R (f+1) p=hO (dl R f) R kind text off (p+1))(n5:kind≠5)(n6:kind≠6)(n2:kind≠2)(n1:kind≠1)(h e:Nat)(Ik:eN .string (cn text) k0 0=some (some (h,bW e))):
  bV C ca dj [.bp 0 0] [dp R p] fun j d=>∃b,d=[.box b]/\cM j=true/\fu 0 b=true/\B2 R (dl R (f+1) p) j b:=by
 have i:=w.len;exact Yc
theorem Ql(s:Rd)(w:s.Wf)(f p:Nat)(o:p<s.ts.length)(q:ef (dl s f) s (p+1)):
  bV C ca dj [.bp 0 0] [dp s p] fun V M=>∃H,M=[.box H]/\cM V=true/\fu 0 H=true/\B2 s (dl s (f+1) p) V H:=by
 have n:dl s (f+1) p=hO (dl s f) s (s.tok p).kind (s.tok p).text (s.tok p).off (p+1):=by rw[dl]
 have e:=bY o;generalize s.tok p=T at n e;obtain⟨d,b,h⟩:=T;dsimp only at n;have cases:(d=5/\(b=[105,110,116]))∨(d=5/\b=[98,111,111,108])∨(d=5/\b=[116,101,120,116])∨(d=5/\b=[97,110,121])∨(d=5/\b=[110,111,110,101])∨(d=5/\b=[108,105,115,116])∨(d=5/\b=[102,110])∨
   (d=5/\u9 b=none/\b≠[108,105,115,116]/\b≠[102,110])∨(d=6/\b=[123])∨(d=6/\b=[60])∨(d=6/\b≠[123]/\b≠[60])∨d=2∨d=1∨(d≠5/\d≠6/\d≠2/\d≠1):=by
  by_cases i:d=5
  ·by_cases h1:b=[105,110,116]
   ·exact .inl ⟨i,h1⟩
   refine .inr ?_;by_cases h2:b=[98,111,111,108]
   ·exact .inl ⟨i,h2⟩
   refine .inr ?_;by_cases L:b=[116,101,120,116]
   ·exact .inl ⟨i,L⟩
   refine .inr ?_;by_cases J:b=[97,110,121]
   ·exact .inl ⟨i,J⟩
   refine .inr ?_;by_cases t:b=[110,111,110,101]
   ·exact .inl ⟨i,t⟩
   refine .inr ?_;by_cases D:b=[108,105,115,116]
   ·exact .inl ⟨i,D⟩
   refine .inr ?_;by_cases G:b=[102,110]
   ·exact .inl ⟨i,G⟩
   refine .inr (.inl ⟨i,?_,D,G⟩);unfold u9;rw[if_neg h1,if_neg h2,if_neg L,if_neg J,if_neg t]
  ·refine .inr (.inr (.inr (.inr (.inr (.inr (.inr (.inr ?_)))))));by_cases t:d=6
   ·by_cases D:b=[123]
    ·exact .inl ⟨t,D⟩
    ·by_cases G:b=[60]
     ·exact .inr (.inl ⟨t,G⟩)
     ·exact .inr (.inr (.inl ⟨t,D,G⟩))
   ·by_cases h2:d=2
    ·exact .inr (.inr (.inr (.inl h2)))
    ·by_cases h1:d=1
     ·exact .inr (.inr (.inr (.inr (.inl h1))))
     ·exact .inr (.inr (.inr (.inr (.inr ⟨i,t,h2,h1⟩))))
 rcases cases with⟨i,l⟩|⟨i,l⟩|⟨i,l⟩|⟨i,l⟩|⟨i,l⟩|⟨i,l⟩|⟨i,l⟩|⟨i,S,U,O⟩|⟨t,F⟩|⟨t,F⟩|⟨t,R,N⟩|h2|h1|⟨I,K,Q,P⟩
 ·exact aaT s w f p o q d b h e n i l
 ·exact aaU s w f p o q d b h e n i l
 ·exact aaV s w f p o q d b h e n i l
 ·exact aaW s w f p o q d b h e n i l
 ·exact aaX s w f p o q d b h e n i l
 ·exact aaY s w f p o q d b h e n i l
 ·exact aaZ s w f p o q d b h e n i l
 ·exact aa0 s w f p o q d b h e n i S U O
 ·exact aa1 s w f p o q d b h e n t F
 ·exact aa2 s w f p o q d b h e n t F
 ·rcases sS b with j|⟨y,x,j⟩
  ·exact Wr s w f p o q d b h e n t R N j
  ·exact Ws s w f p o q d b h e n t R N y x j
 ·rcases sS b with j|⟨y,x,j⟩
  ·exact Wt s w f p o q d b h e n h2 j
  ·exact Wu s w f p o q d b h e n h2 y x j
 ·rcases sS b with j|⟨y,x,j⟩
  ·exact Wv s w f p o q d b h e n h1 j
  ·exact Ww s w f p o q d b h e n h1 y x j
 ·rcases sS b with j|⟨y,x,j⟩
  ·exact Wx s w f p o q d b h e n I K Q P j
  ·exact Wy s w f p o q d b h e n I K Q P y x j
end Go.Proofs.YtpejealjkmhkgaaGreatDoor
