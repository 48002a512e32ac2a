/- Part of the proof. -/
import Derived.Test.YtpejealjkmhkgaaGreatDoorKBm
set_option linter.all false
set_option maxHeartbeats 16000000
set_option maxRecDepth 100000
open List renaming mem_singleton->YL,mem_cons->YM,length_append->YN,mem_append->YO,length_singleton->YP,not_mem_nil->YQ,mem_map->YS
open Nat renaming le_trans->YR,zero_le->YT
namespace Go.Proofs.YtpejealjkmhkgaaGreatDoor
open Go.AM Go.VM
def fm(b:List UInt8)(t:Int)(l:Bool)(c:Int):V:=.agg [cq b,.d (.int .i64 t),ct l,.d (.int .i64 c)]
def PZ:List pP:=[⟨b3 0,fm [98] 0 false 0,0⟩,⟨b3 1,fm [120] 0 false 0,1⟩,⟨b3 2,fm [98] 0 false 0,2⟩,⟨b3 3,fm [110] 0 false 0,3⟩,⟨b3 4,fm [109,110] (-1) false 0,4⟩,
 ⟨b3 5,fm [] 0 true 0,5⟩,⟨b3 6,fm [110] 0 false 1,6⟩,⟨b3 7,fm [110] 0 false 1,7⟩,⟨b3 8,fm [116,111] 0 true 1,8⟩,⟨b3 9,fm [] 0 true 1,9⟩,
 ⟨b3 10,fm [110] 0 false 2,10⟩,⟨b3 11,fm [] 1 false 1,11⟩,⟨b3 12,fm [] 1 false 3,12⟩,⟨b3 13,fm [118] 1 true 1,13⟩,⟨b3 14,fm [] 1 false (-1),14⟩,
 ⟨b3 15,fm [110,120] 1 false 3,15⟩,⟨b3 16,fm [110] 0 false (-1),16⟩]
def EX:cL:=.map PZ 17
theorem fitAll {b:Prop} (c:b:=by
 refine cz ?_;repeat' first|(change hz _ _ _;first|refine a8 (by with_reducible assumption) ?_|refine a6 (by with_reducible assumption) ?_|refine aZ (fun _=>?_) (fun _=>?_))|refine dy (args:=[.str _,.str _]) (x:=.bool true) rfl rfl ?_|refine dy (args:=[.str _,.str _]) (x:=.bool false) rfl rfl ?_|refine MY (by assumption) ?_|refine MZ (by assumption) ?_|refine cl.loop ?_|refine b9 ?_
 all_goals exact a7 0 ⟨rfl,rfl⟩):b:=c
structure kB (k:Nat) (labels:List iV):Prop where
 name:∀l∈labels,cM l.n=true
 VZ:k8 iV.n labels
 var:∀l∈labels,if k=13 then cM l.v=true else l.v=[]
 ty:∀l∈labels,if k=8 then gu l.ty else l.ty=c1/\l.vu=false
def y9(l:List iV):Nat:=(l.filter iV.vu).length
def Be:List (List UInt8):=[[43],[45],[42],[60],[61,61],[61,61,61],[43,43],[97,110,100],[111,114]]
def M0:List (List UInt8):=[[110,111,116],[108,101,110,103,116,104]]
inductive gv:Ex->Prop
 |int {num:Int}:gv (.mk 0 [] [] [] num [] [] [])
 |text {x:List UInt8}:gv (.mk 1 [] [] x 0 [] [] [])
 |bool {b:Bool}:gv (.mk 2 [] [] [] (if b then 1 else 0) [] [] [])
 |loc {n:List UInt8} (hn:cM n=true):gv (.mk 3 [] n [] 0 [] [] [])
 |val {m n:List UInt8} {types:List Ty} (hm:m=[]∨cM m=true) (hn:cM n=true) (ht:∀t∈types,gu t) (hv:m≠[]∨types≠[]):gv (.mk 4 m n [] 0 types [] [])
 |UI {labels:List iV} {kids:List Ex} (hl:kB 5 labels) (hk:kids.length=labels.length):gv (.mk 5 [] [] [] 0 [] labels kids)
 |V7 {n:List UInt8} {x:Ex} (hn:cM n=true):gv (.mk 6 [] n [] 0 [] [] [x])
 |inj {n:List UInt8} {x:Ex} (hn:cM n=true):gv (.mk 7 [] n [] 0 [] [] [x])
 |func {labels:List iV} {kids:List Ex} (hl:kB 8 labels) (hk:kids.length=y9 labels+1):gv (.mk 8 [] [] [] 0 [] labels kids)
 |call {labels:List iV} {kids:List Ex} (hl:kB 9 labels) (hk:kids.length=labels.length+1):gv (.mk 9 [] [] [] 0 [] labels kids)
 |V8 {n:List UInt8} {x y:Ex} (hn:cM n=true):gv (.mk 10 [] n [] 0 [] [] [x,y])
 |X7 {t:Ty} {x:Ex} (ht:gu t):gv (.mk 11 [] [] [] 0 [t] [] [x])
 |cond {t:Ty} {x y z:Ex} (ht:gu t):gv (.mk 12 [] [] [] 0 [t] [] [x,y,z])
 |XO {t:Ty} {labels:List iV} {kids:List Ex} (ht:gu t) (hl:kB 13 labels) (hk:kids.length=labels.length+1):gv (.mk 13 [] [] [] 0 [t] labels kids)
 |X8 {t:Ty} {kids:List Ex} (ht:gu t):gv (.mk 14 [] [] [] 0 [t] [] kids)
 |fold {n v:List UInt8} {t:Ty} {x y z:Ex} (ht:gu t) (hn:cM n=true) (hv:cM v=true):gv (.mk 15 [] n v 0 [t] [] [x,y,z])
 |one {n:List UInt8} {x:Ex} (hn:n∈M0):gv (.mk 16 [] n [] 0 [] [] [x])
 |two {n:List UInt8} {x y:Ex} (hn:n∈Be):gv (.mk 16 [] n [] 0 [] [] [x,y])
theorem Sr{s:List UInt8}(b:cM s=true):(!decide (s=[]))=true:=by
 cases s with
 |nil=>cases b
 |cons c f=>rfl
def V9(o:Nat)(p n l:List UInt8)(b:Int)(f k c:D):V:=.agg (tG o p n l b f k c)
variable{q y:Ex} {j v:D}
theorem ij.one(b:ij [q] j):∃f l k c,j=.ps f l 8 k [c]:=by
 cases b with|ps b=>cases b with|cons _ b=>cases b;exact⟨_,_,_,_,rfl⟩
theorem ij.two(b:ij [q,y] j):∃f l k c n,j=.ps f l 8 k [c,n]:=by
 cases b with|ps b=>cases b with|cons _ b=>cases b with|cons _ b=>cases b;exact⟨_,_,_,_,_,rfl⟩
theorem ij.three{k:Ex}(b:ij [q,y,k] j):∃l o n c p f,j=.ps l o 8 n [c,p,f]:=by
 cases b with|ps b=>cases b with|cons _ b=>cases b with|cons _ b=>cases b with|cons _ b=>cases b;exact⟨_,_,_,_,_,_,rfl⟩
theorem fK.cV(b:fK [] j):j=.cn∨∃c k f,j=.ps c k 8 f []:=by
 cases b with
 |nil=>exact .inl rfl
 |ps b=>cases b;exact .inr ⟨_,_,_,rfl⟩
theorem ij.cV(b:ij [] j):j=.cn∨∃c k f,j=.ps c k 8 f []:=by
 cases b with
 |nil=>exact .inl rfl
 |ps b=>cases b;exact .inr ⟨_,_,_,rfl⟩
variable{i:dC->VS->Prop} {w:VS}
theorem MY{n:List UInt8}(c:n∈Be)(b:i (.ret (b3 2)) w):b1 C b7 o9 [cq n] w i:=by
 simp only[Be,YM,YQ,or_false]at c;rcases c with rfl|rfl|rfl|rfl|rfl|rfl|rfl|rfl|rfl;all_goals refine b9 ?_;exact b
theorem MZ{n:List UInt8}(c:n∈M0)(b:i (.ret (b3 1)) w):b1 C b7 o9 [cq n] w i:=by
 simp only[M0,YM,YQ,or_false]at c;rcases c with rfl|rfl;all_goals refine b9 ?_;exact b
def fC(t:Nat)(x n p:List UInt8)(b:Int)(l o k:D)(f:V):Prop:=b1 C b7 Cd [V9 t x n p b l o k,f] [] fun s c=>c=[]/\s=.ret (ct true)
theorem fits_int(b:Int)(f:fK [] j)(c:ij [] v):fC 0 [] [] [] b .cn j v (fm [98] 0 false 0):=by
 unfold fC;rcases f.cV with rfl|⟨l,s,p,rfl⟩<;>rcases c.cV with rfl|⟨n,o,k,rfl⟩<;>exact fitAll
theorem M1(x:List UInt8)(c:fK [] j)(b:ij [] v):fC 1 [] [] x 0 .cn j v (fm [120] 0 false 0):=by
 unfold fC;rcases c.cV with rfl|⟨k,p,o,rfl⟩<;>rcases b.cV with rfl|⟨l,n,f,rfl⟩<;>exact fitAll
theorem fits_bool(b:Bool)(f:fK [] j)(c:ij [] v):fC 2 [] [] [] (if b then 1 else 0) .cn j v (fm [98] 0 false 0):=by
 cases b;all_goals
  unfold fC;rcases f.cV with rfl|⟨l,s,p,rfl⟩<;>rcases c.cV with rfl|⟨n,o,k,rfl⟩<;>exact fitAll
theorem P0(n:List UInt8)(c:fK [] j)(b:ij [] v):fC 3 [] n [] 0 .cn j v (fm [110] 0 false 0):=by
 unfold fC;rcases c.cV with rfl|⟨k,s,p,rfl⟩<;>rcases b.cV with rfl|⟨l,o,f,rfl⟩<;>exact fitAll
theorem P1(o n:List UInt8)(f:D)(c:fK [] j)(b:ij [] v):fC 4 o n [] 0 f j v (fm [109,110] (-1) false 0):=by
 unfold fC;rcases c.cV with rfl|⟨l,x,t,rfl⟩<;>rcases b.cV with rfl|⟨p,s,k,rfl⟩<;>exact fitAll
theorem M2(n:List UInt8){x:Ex}(c:fK [] j)(b:ij [x] v):fC 6 [] n [] 0 .cn j v (fm [110] 0 false 1):=by
 unfold fC;rcases c.cV with rfl|⟨k,s,p,rfl⟩<;>obtain⟨l,o,f,d1,rfl⟩:=b.one<;>exact fitAll
theorem P2(n:List UInt8){x:Ex}(c:fK [] j)(b:ij [x] v):fC 7 [] n [] 0 .cn j v (fm [110] 0 false 1):=by
 unfold fC;rcases c.cV with rfl|⟨k,s,p,rfl⟩<;>obtain⟨l,o,f,d1,rfl⟩:=b.one<;>exact fitAll
inductive fS:Ex->Prop
 |mk {e:Ex} (h:gv e) (hk:∀x∈e.kids,fS x):fS e
def eT(fn:Nat->PR Ex)(k:Rd)(lo:Nat):Prop:=∀b f c,lo<=b->b<k.ts.length->fn b=.ok f c->fS f/\da f+b<=c/\b<c/\c<k.ts.length
variable{e:Rd}
theorem eT.up{fn:Nat->PR Ex}{lo b:Nat}(n:eT fn e lo)(c:lo<=b):eT fn e b:=fun o l k f=>n o l k (YR c f)
def Vs(b:Nat)(p:et):Nat:=cS p.val+if b=8 then cJ p.ty else 0
def mq(b:Nat):List et->Nat
 |[]=>0
 |p::c=>Vs b p+mq b c
variable{g:Nat}
theorem M3{l b:List et}(o:l.Perm b):mq g l=mq g b:=by
 induction o with
 |nil=>rfl
 |cons n _ c=>simp only[mq,c]
 |swap n p l=>simp only[mq];omega
 |trans _ _ k f=>rw[k,f]
theorem w8(k:Nat)(c b:List et):mq k (c++b)=mq k c+mq k b:=by
 induction c with
 |nil=>simp[mq]
 |cons l c f=>simp only[List.cons_append,mq,f];omega
structure q6 (k:Nat) (l:List et):Prop where
 name:∀x∈l,cM x.n=true
 var:∀x∈l,if k=13 then cM x.v=true else x.v=[]
 ty:∀x∈l,if k=8 then gu x.ty else x.ty=c1/\x.vu=false
 val:∀x∈l,∀e∈x.val,fS e
 one:∀x∈l,x.val.length=if k=8/\x.vu=false then 0 else 1
 nd:(l.map et.n).Nodup
theorem q6.nil(b:Nat):q6 b []:=⟨by simp,by simp,by simp,by simp,by simp,by simp⟩
theorem q6.snoc{l:List et}{x:et}(f:q6 g l)(A:cM x.n=true)(t:if g=13 then cM x.v=true else x.v=[])(C:if g=8 then gu x.ty else x.ty=c1/\x.vu=false)(z:∀D∈x.val,fS D) 
  (B:x.val.length=if g=8/\x.vu=false then 0 else 1) (o:x.n ∉ l.map et.n):q6 g (l++[x]):=by
 have b:∀{p:et->Prop},(∀k∈l,p k)->p x->∀k∈l++[x],p k:=fun F E k c=>by
  rcases YO.1 c with c|c
  ·exact F k c
  ·simp at c;subst c;exact E
 refine⟨b f.name A,b f.var t,b f.ty C,b f.val z,b f.one B,?_⟩;rw[List.map_append,List.nodup_append];refine⟨f.nd,by simp,?_⟩;intro F s E n D;simp only[List.map_cons,List.map_nil,YL]at n;subst D;subst n;exact o s
theorem q6.perm{l n:List et}(k:q6 g l)(c:n.Perm l):q6 g n:=
 ⟨fun f b=>k.name f (c.mem_iff.1 b),fun f b=>k.var f (c.mem_iff.1 b),fun f b=>k.ty f (c.mem_iff.1 b),fun f b=>k.val f (c.mem_iff.1 b),fun f b=>k.one f (c.mem_iff.1 b),((c.map et.n).nodup_iff).2 k.nd⟩
theorem q6.Ss{l:List et}(k:q6 g l)(n:k8 et.n l):kB g (l.map et.CV):=by
 refine⟨fun o c=>?_,?_,fun o c=>?_,fun o c=>?_⟩
 ·obtain⟨f,b,rfl⟩:=YS.1 c;exact k.name f b
 ·exact List.pairwise_map.2 n
 ·obtain⟨f,b,rfl⟩:=YS.1 c;exact k.var f b
 ·obtain⟨f,b,rfl⟩:=YS.1 c;exact k.ty f b
theorem M4{l:List et}(s:∀b∈l,b.val.length=if g=8/\b.vu=false then 0 else 1):(l.flatMap et.val).length=if g=8 then y9 (l.map et.CV)else l.length:=by
 induction l with
 |nil=>split<;>rfl
 |cons b l f=>
  have o:=s b sm;have k:=f fun t n=>s t (by simp[n]);rw[List.flatMap_cons,YN,o,k];by_cases c:g=8
  ·simp only[c,true_and,if_true];show _=(List.filter iV.vu (b.CV::List.map et.CV l)).length;rw[List.filter_cons,y9];have p:b.CV.vu=b.vu:=rfl;rw[p];cases b.vu<;>simp<;>omega
  ·simp only[c,false_and,if_false,List.length_cons];omega
theorem q6.size(f:Nat)(l:List et):cC (if f=8 then(l.map et.CV).map iV.ty else [])+cS (l.flatMap et.val)=mq f l:=by
 induction l with
 |nil=>split<;>simp[cC,cS,mq]
 |cons k l c=>
  rw[List.flatMap_cons,l2,mq,Vs,<-c];by_cases b:f=8
  ·simp only[b,if_true,List.map_cons,cC];show cJ k.ty+_+_=_;omega
  ·simp only[b,if_false,cC];omega
theorem vm{k:Nat}{n:List UInt8}{types:List Ty}{kids:List Ex}{l:List et}:da (jv k n types kids l)=1+cC types+cS kids+mq k l:=by
 rw[jv,da,jC,l2];have b:=q6.size k (cE et.n l);rw[M3 (dG l)]at b;omega
theorem xU{n:List UInt8}{types:List Ty}{kids:List Ex}{l:List et}(o:q6 g l)(c:∀b∈kids,fS b):∀b∈(jv g n types kids l).kids,fS b:=by
 intro b hx;rcases YO.1 hx with hx|hx
 ·exact c b hx
 ·obtain⟨k,f,hx⟩:=List.mem_flatMap.1 hx;exact(o.perm (dG l)).val k f b hx
theorem xV{l:List et}(b:q6 g l):kB g ((cE et.n l).map et.CV):=(b.perm (dG l)).Ss (hL b.nd)
theorem Bf{l:List et}(b:q6 g l):((cE et.n l).flatMap et.val).length=if g=8 then y9 ((cE et.n l).map et.CV)else((cE et.n l).map et.CV).length:=by
 rw[M4 (b.perm (dG l)).one,List.length_map]
variable{m:List UInt8}
theorem M5{n:Type}{step:n->Nat->PR n}(M:e.Wf){lo:Nat}{I:n->Nat->Prop}(x:∀l b f,I l b->b<=f->I l f)(H:∀l b c f,lo<=b->b<e.ts.length->I l b->step l b=.ok c f->I c f/\b<f/\f<e.ts.length):
  ∀(B:Nat) (l:n) (b:Nat) (c:n) (f:Nat),lo<=b->b<e.ts.length->I l b->gS step e m B l b=.ok c f->I c f/\b<f/\f<e.ts.length:=by
 intro B;induction B with
 |zero=>intro l b c f _ _ _ k;cases k
 |succ B K=>
  intro l b c f D C F k;rw[gS]at k;cases p:step l b with
  |bad O R=>rw[p]at k;cases k
  |ok z s=>
   rw[p]at k;dsimp only at k;obtain⟨t,P,A⟩:=H l b z s D C F p;split at k
   ·rename_i E;cases k;exact⟨x _ _ _ t (Nat.le_succ _),om,M.step A E⟩
   ·cases o:cu e [[44]] s with
    |bad O R=>rw[o]at k;cases k
    |ok S L=>
     rw[o]at k;dsimp only at k;have Q:=cH _ _ _ o;obtain⟨J,N,G⟩:=K z L c f om (c8 M _ _ _ A o) (x _ _ _ t om) k;exact⟨J,om,G⟩
theorem tH{c:Type}{step:c->Nat->PR c}(z:e.Wf){lo:Nat}{I:c->Nat->Prop}(k:∀f p g,I f p->p<=g->I f g)(x:∀f p b g,lo<=p->p<e.ts.length->I f p->step f p=.ok b g->I b g/\p<g/\g<e.ts.length) 
  {f:c} {p:Nat} {b:c} (t:lo<=p) (n:p<e.ts.length) (l:I f p) (o:fA step e m f p=.ok b g):I b g/\p<g/\g<e.ts.length:=by
 rw[fA]at o;split at o
 ·rename_i s;cases o;exact⟨k _ _ _ l (Nat.le_succ _),om,z.step n s⟩
 ·exact M5 z k x _ f p b g t n l o
theorem jE(o:e.Wf){s:List UInt8}{p c:Nat}{n:Unit}(k:p<e.ts.length)(b:cu e [s] p=.ok n c):c=p+1/\c<e.ts.length/\c0 (e.tok p) s=true:=by
 have f:=c8 o _ _ _ k b;rw[cu]at b;split at b
 ·rename_i l;cases b;exact⟨rfl,f,l⟩
 ·cases b
variable{a:Nat->PR Ex}
theorem lj(A:e.Wf){lo:Nat}(n:eT a e lo){s:List UInt8}{p c:Nat}(x:lo<=p)(k:p<e.ts.length)(f:eJ a e s p=.ok q c):fS q/\da q+p+1<=c/\p<c/\c<e.ts.length:=by
 rw[eJ]at f;cases b:cu e [s] p with
 |bad B F=>rw[b]at f;cases f
 |ok D t=>
  rw[b]at f;obtain⟨rfl,l,_⟩:=jE A k b;obtain⟨o,C,E,z⟩:=n _ q c om l f;exact⟨o,om,om,z⟩
theorem oh(n:e.Wf)(l:e.Nm){p k:Nat}{s:List UInt8}(c:p<e.ts.length)(f:c9 e p=.ok s k):cM s=true/\k=p+1/\k<e.ts.length:=by
 rw[c9]at f;split at f
 ·cases f
 ·rename_i b;have b:(e.tok p).kind=1:=by simpa using b
  cases f;exact⟨(l p c).1 b,Z,n.go p _ (bZ c) om⟩
theorem xW(t:e.Wf)(n:e.Nm){b:List et}{p l:Nat}{s:List UInt8}(k:p<e.ts.length)(f:ef e b p=.ok s l):cM s=true/\s ∉ b.map et.n/\l=p+1/\l<e.ts.length:=by
 rw[ef]at f;split at f
 ·cases f
 ·rename_i c;have c:(e.tok p).kind=1:=by simpa using c
  split at f
  ·cases f
  ·rename_i o;cases f;exact⟨(n p k).1 c,o,Z,t.go p _ (bZ k) om⟩
def PI(c b:Nat)(l:List et)(p:Nat):Prop:=q6 c l/\mq c l+b<=p
theorem PI.mono{b:Nat}(l:List et)(p f:Nat)(k:PI g b l p)(c:p<=f):PI g b l f:=⟨k.1,YR k.2 c⟩
theorem JI(G:e.Wf)(D:e.Nm){lo t o:Nat}(b:t≠8)(k:t≠13)(E:eT a e lo)(A:List et)(p:Nat)(l:List et)(x:Nat)(I:lo<=p)(z:p<e.ts.length)(n:PI t o A p)(f:ja a e A p=.ok l x):PI t o l x/\p<x/\x<e.ts.length:=by
 rw[ja]at f;cases c:ef e A p with
 |bad L N=>rw[c]at f;cases f
 |ok s H=>
  rw[c]at f;dsimp only at f;obtain⟨f1,f2,rfl,f4⟩:=xW G D z c;obtain⟨M,C,rfl⟩:=e6 f;obtain⟨F,K,J,B⟩:=lj G E om f4 C;refine⟨⟨n.1.snoc f1 (by rw[if_neg k]) (by rw[if_neg b];exact⟨rfl,rfl⟩) (by simpa using F) (by simp[b]) f2,?_⟩,om,B⟩;have:=n.2;rw[w8,mq,mq,Vs,if_neg b,cS,cS];omega
theorem JJ(G:e.Wf)(n:e.Nm){lo o:Nat}(D:eT a e lo)(z:List et)(p:Nat)(k:List et)(t:Nat)(J:lo<=p)(x:p<e.ts.length)(l:PI 13 o z p)(b:ic a e z p=.ok k t):PI 13 o k t/\p<t/\t<e.ts.length:=by
 rw[ic]at b;cases f:ef e z p with
 |bad H M=>rw[f]at b;cases b
 |ok s I=>
  rw[f]at b;dsimp only at b;obtain⟨f1,f2,rfl,f4⟩:=xW G n x f;cases c:c9 e (p+1)with
  |bad H M=>rw[c]at b;cases b
  |ok O N=>
   rw[c]at b;dsimp only at b;obtain⟨F,rfl,A⟩:=oh G n f4 c;obtain⟨P,C,rfl⟩:=e6 b;obtain⟨E,L,K,B⟩:=lj G D om A C;refine⟨⟨l.1.snoc f1 (by rw[if_pos rfl];exact F) (by rw[if_neg dc];exact⟨rfl,rfl⟩) (by simpa using E) sm f2,?_⟩,om,B⟩;have:=l.2;rw[w8,mq,mq,Vs,if_neg dc,cS,cS];omega
variable{d:Nat->PR Ty}
theorem JK(K:e.Wf)(G:e.Nm){lo t:Nat}(A:Good d e lo)(H:eT a e lo)(z:List et)(p:Nat)(n:List et)(o:Nat)(Q:lo<=p)(x:p<e.ts.length)(f:PI 8 t z p)(b:hR d a e z p=.ok n o):PI 8 t n o/\p<o/\o<e.ts.length:=by
 rw[hR]at b;cases k:ef e z p with
 |bad L N=>rw[k]at b;cases b
 |ok s P=>
  rw[k]at b;dsimp only at b;obtain⟨f1,f2,rfl,f4⟩:=xW K G x k;cases c:cu e [[58]] (p+1)with
  |bad L N=>rw[c]at b;cases b
  |ok U T=>
   rw[c]at b;dsimp only at b;obtain⟨rfl,B,_⟩:=jE K f4 c;cases l:d (p+1+1)with
   |bad L N=>rw[l]at b;cases b
   |ok I D=>
    rw[l]at b;dsimp only at b;obtain⟨t1,t2,t3,t4⟩:=A _ I D om B l;have M:=f.2;split at b
    ·rename_i C;obtain⟨O,F,rfl⟩:=e6 b;obtain⟨J,S,R,E⟩:=H _ O o om (K.step t4 C) F;refine⟨⟨f.1.snoc f1 (by rw[if_neg dc]) (by rw[if_pos rfl];exact t1) (by simpa using J) sm f2,?_⟩,om,E⟩;rw[w8,mq,mq,Vs,if_pos rfl,cS,cS];show _+(_+cJ I+_)+_<=_;omega
    ·cases b;refine⟨⟨f.1.snoc f1 (by rw[if_neg dc]) (by rw[if_pos rfl];exact t1) sm sm f2,?_⟩,om,t4⟩;rw[w8,mq,mq,Vs,if_pos rfl,cS];show _+(_+cJ I+_)+_<=_;omega
theorem yG(G:e.Wf)(D:e.Nm){lo k:Nat}(l:k≠8)(c:k≠13)(E:eT a e lo){kids:List Ex}{p n:Nat}(t:∀q∈kids,fS q)(x:lo<=p)(s:p<e.ts.length) 
  (C:∀o,kB k o->∀f:List Ex,f.length=o.length->gv (.mk k [] [] [] 0 [] o (kids++f))) (F:gV a e m k kids p=.ok q n):fS q/\da q+p<=1+cS kids+n/\p<n/\n<e.ts.length:=by
 rw[gV]at F;obtain⟨o,z,rfl⟩:=e6 F;obtain⟨⟨b,H⟩,A,B⟩:=tH (I:=PI k p) G PI.mono (JI G D l c E) x s ⟨q6.nil k,by rw[mq];omega⟩ z;refine⟨.mk ?_ (xU b t),?_,A,B⟩
 ·exact C _ (xV b) _ (by rw[Bf b,if_neg l])
 ·rw[vm,cC];omega
variable{r:Int}
theorem l3{b n c:List UInt8}:da (.mk g b n c r [] [] [])=1:=by
 rw[da,cS];split<;>simp[cC]
theorem fS.leaf{f n b:List UInt8}{types:List Ty}(k:gv (.mk g f n b r types [] [])):fS (.mk g f n b r types [] []):=.mk k (fun b c=>by cases c)
variable{u:List iV}
theorem fS.one{k n f:List UInt8}{types:List Ty}(l:gv (.mk g k n f r types u [q]))(b:fS q):fS (.mk g k n f r types u [q]):=.mk l (fun o c=>by
 obtain rfl:=YL.1 c;exact b)
theorem fS.two{p n o:List UInt8}{types:List Ty}{k b:Ex}(s:gv (.mk g p n o r types u [k,b]))(f:fS k)(l:fS b):fS (.mk g p n o r types u [k,b]):=.mk s (fun t c=>by
 rcases YM.1 c with rfl|c
 ·exact f
 ·obtain rfl:=YL.1 c;exact l)
theorem fS.three{t n s:List UInt8}{types:List Ty}{l b c:Ex}(x:gv (.mk g t n s r types u [l,b,c]))(k:fS l)(o:fS b)(p:fS c):fS (.mk g t n s r types u [l,b,c]):=.mk x (fun z f=>by
 rcases YM.1 f with rfl|f
 ·exact k
 ·rcases YM.1 f with rfl|f
  ·exact o
  ·obtain rfl:=YL.1 f;exact p)
theorem gp{f n c:List UInt8}{types:List Ty}{b:List Ex}:da (.mk g f n c r types [] b)=1+cC types+cS b:=by
 rw[da];split<;>simp
theorem Da(o:e.Wf){c p l:Nat}(n:p<e.ts.length)(b:mF c e p=.ok q l):fS q/\da q+p<=l/\p<l/\l<e.ts.length:=by
 rw[mF]at b;split at b
 ·cases b
 ·rename_i f;have f:(e.tok p).kind=3:=by simpa using f
  have k:=o.go p _ (bZ n) om;split at b
  ·split at b
   ·cases b
   ·cases b;exact⟨.leaf .int,by rw[l3];omega,om,k⟩
  ·cases b
variable{h:List (List UInt8)}
theorem Hg{t:Tok}{o:List UInt8}(f:tS t h=some o):o∈h/\c0 t o=true:=by
 obtain⟨k,b,rfl,c,_⟩:=tw f;exact⟨List.getElem_mem b,c⟩
theorem M6(N:e.Wf){fn:Nat->PR Ex}(E:∀C∈h,C∈Be){lo:Nat}(G:eT fn e lo):∀(A:Nat) (t:Ex) (c b:Nat) (l:Ex) (k:Nat),lo<=c->c<e.ts.length->fS t->da t+b<=c->b<c->rK fn h e A t c=.ok l k->fS l/\da l+b<=k/\b<k/\k<e.ts.length:=by
 intro A;induction A with
 |zero=>intro t c b l k _ _ _ _ _ f;cases f
 |succ A H=>
  intro t c b l k L o x F B f;rw[rK]at f;split at f
  ·cases f;exact⟨x,F,B,o⟩
  ·rename_i C s;obtain⟨p,I⟩:=Hg s;have n:=N.step o I;split at f
   ·cases f
   ·rename_i J z D;obtain⟨K,O,P,M⟩:=G (c+1) J z om n D;refine H _ z b l k om M (.two (.two (E C p)) x K) ?_ om f;rw[gp];simp only[cC,cS];omega
theorem tI(E:e.Wf){fn:Nat->PR Ex}(n:∀x∈h,x∈Be){lo:Nat}(b:eT fn e lo):eT (la fn h e) e lo:=by
 intro s A C l k f;rw[la]at f;split at f
 ·cases f
 ·rename_i p c o;obtain⟨t,B,D,z⟩:=b s p c l k o;exact M6 E n b _ p c s A C om z t B D f
theorem Hh:∀(l:Nat) (c:List Ty) (n:Nat) (o:List Ty) (p:Nat),dE d e l c n=.ok o p->o≠[]:=by
 intro l;induction l with
 |zero=>intro c n o p b;cases b
 |succ l s=>
  intro c n o p b;rw[dE]at b;cases f:d n with
  |bad z x=>rw[f]at b;cases b
  |ok C t=>
   rw[f]at b;dsimp only at b;split at b
   ·exact s _ _ _ _ b
   ·cases k:cu e [[93]] t with
    |bad z x=>rw[k]at b;cases b
    |ok B A=>rw[k]at b;cases b;simp
theorem Hi(O:e.Wf)(n:e.Nm){s:List UInt8}{p k:Nat}(K:Good d e p)(l:cM s=true)(H:p<e.ts.length)(c:gm d e s p=.ok q k):fS q/\da q+p<=k+1/\p<=k/\k<e.ts.length:=by
 have D:s≠[]:=fun R=>by rw[R]at l;cases l
 rw[gm]at c;have o:∀(I:Nat) (A J:List UInt8) (b:Nat),((I=4/\A=s)∨(I=3/\A=[]))->cM J=true->p<=b->b<e.ts.length->(if c0 (e.tok b) [91]=true then(hQ d e b).map fun P=>Ex.mk 4 A J [] 0 P [] []else .ok (.mk I A J [] 0 [] [] []) b)=.ok q k->fS q/\da q+p<=k+1/\p<=k/\k<e.ts.length:=by
  intro I A J b F B G t c;have n:A=[]∨cM A=true:=by rcases F with⟨_,rfl⟩|⟨_,rfl⟩;exact .inr l;exact .inl rfl
  split at c
  ·rename_i E;obtain⟨P,z,rfl⟩:=e6 c;obtain⟨S,X,V⟩:=vf O (fun N U k Q=>K N U k om) t z;have x:P≠[]:=by
    rw[hQ,if_pos E]at z;exact Hh _ _ _ _ _ z
   refine⟨.leaf (.val n B S (.inr x)),?_,om,V⟩;rw[gp,cS];omega
  ·cases c;rcases F with⟨rfl,rfl⟩|⟨rfl,rfl⟩
   ·exact⟨.leaf (.val n B sm (.inl D)),by rw[l3];omega,G,t⟩
   ·exact⟨.leaf (.loc B),by rw[l3];omega,G,t⟩
 by_cases f:c0 (e.tok p) [58,58]=true
 ·rw[if_pos f]at c;cases C:c9 e (p+1)with
  |bad W R=>rw[C]at c;cases c
  |ok T b=>
   rw[C]at c;obtain⟨M,rfl,L⟩:=oh O n (O.step H f) C;exact o 4 s T _ (.inl ⟨Z,Z⟩) M om L c
 ·rw[if_neg f]at c;exact o 3 [] s p (.inr ⟨Z,Z⟩) l (Nat.le_refl _) H c
theorem JL{lo n:Nat}(B:eT a e lo)(s:List Ex)(p:Nat)(c:List Ex)(l:Nat)(t:lo<=p)(o:p<e.ts.length)(k:(∀f∈s,fS f)/\cS s+n<=p)(D:kc a s p=.ok c l):((∀f∈c,fS f)/\cS c+n<=l)/\p<l/\l<e.ts.length:=by
 rw[kc]at D;obtain⟨f,A,rfl⟩:=e6 D;obtain⟨C,F,x,z⟩:=B p f l t o A;refine⟨⟨fun E b=>?_,?_⟩,x,z⟩
 ·rcases YO.1 b with b|b
  ·exact k.1 E b
  ·obtain rfl:=YL.1 b;exact C
 ·rw[l2,cS,cS];have:=k.2;omega
theorem JM(o:e.Wf)(E:e.Nm){lo:Nat}(A:Good d e lo)(t:eT a e (lo+1)):eT (e7 d a e) e lo:=by
 intro z X N i l b;have t:eT a e (z+1):=t.up om;have A:Good d e z:=fun D H N M=>A D H N om;rw[e7]at b;split at b
 ·exact Da o l b
 ·split at b
  ·rename_i c;cases b;exact⟨.leaf .text,by rw[l3];omega,om,o.go z _ (bZ l) om⟩
  ·split at b
   ·rename_i c;obtain⟨x,J,W,F⟩:=Hi o E (fun D H N M=>A D H N om) ((E z l).1 c) (o.go z _ (bZ l) om) b;exact⟨x,om,om,F⟩
   ·split at b
    ·rename_i c;cases b;exact⟨.leaf (.bool (b:=true)),by rw[l3];omega,om,o.step l c⟩
    ·split at b
     ·rename_i c;cases b;exact⟨.leaf (.bool (b:=false)),by rw[l3];omega,om,o.step l c⟩
     ·split at b
      ·rename_i c;obtain⟨x,J,W,F⟩:=yG o E (k:=5) (kids:=[]) dc dc t sm (Nat.le_refl _) (o.step l c) (fun m G h L=>.UI G L) b;rw[cS]at J;exact⟨x,om,om,F⟩
      ·split at b
       ·rename_i c;cases k:c9 e (z+1)with
        |bad K O=>rw[k]at b;cases b
        |ok s n=>
         rw[k]at b;dsimp only at b;obtain⟨V,rfl,P⟩:=oh o E (o.step l c) k;cases f:eJ a e [58] (z+1+1)with
         |bad K O=>rw[f]at b;cases b
         |ok Y I=>
          rw[f]at b;dsimp only at b;obtain⟨x,J,W,F⟩:=lj o t om P f;obtain⟨U,B,rfl⟩:=e6 b;obtain⟨rfl,p,_⟩:=jE o F B;exact⟨.one (.inj V) x,by rw[gp];simp only[cC,cS];omega,om,p⟩
       ·split at b
        ·rename_i c;cases k:d (z+1)with
         |bad K O=>rw[k]at b;cases b
         |ok H n=>
          rw[k]at b;dsimp only at b;obtain⟨t1,t2,t3,t4⟩:=A (z+1) H n om (o.step l c) k;cases f:cu e [[124]] n with
          |bad K O=>rw[f]at b;cases b
          |ok U I=>
           rw[f]at b;dsimp only at b;obtain⟨rfl,p,_⟩:=jE o t4 f;obtain⟨m,G,rfl⟩:=e6 b;obtain⟨⟨S,g⟩,j,R⟩:=tH (I:=fun x D=>(∀X∈x,fS X)/\cS x+(n+1)<=D) o (fun x z N b Q=>⟨b.1,YR b.2 Q⟩) (JL t) om p ⟨by simp,by rw[cS];omega⟩ G;exact⟨.mk (.X8 t1) S,by rw[gp];simp only[cC];omega,om,R⟩
        ·split at b
         ·rename_i c;cases k:a (z+1)with
          |bad K O=>rw[k]at b;cases b
          |ok Y n=>
           rw[k]at b;dsimp only at b;obtain⟨x,J,W,F⟩:=t (z+1) Y n om (o.step l c) k;by_cases C:c0 (e.tok n) [58]=true
           ·rw[if_pos C]at b;cases f:d (n+1)with
            |bad K O=>rw[f]at b;cases b
            |ok H I=>
             rw[f]at b;dsimp only[PR.map]at b;obtain⟨t1,t2,t3,t4⟩:=A (n+1) H I om (o.step F C) f;obtain⟨U,B,rfl⟩:=e6 b;obtain⟨rfl,p,_⟩:=jE o t4 B;exact⟨.one (.X7 t1) x,by rw[gp];simp only[cC,cS];omega,om,p⟩
           ·rw[if_neg C]at b;dsimp only at b;obtain⟨U,B,rfl⟩:=e6 b;obtain⟨rfl,p,_⟩:=jE o F B;exact⟨x,om,om,p⟩
         ·cases b
theorem JN(E:e.Wf)(B:e.Nm){lo:Nat}(L:eT a e lo):∀(D:Nat) (o:Ex) (k b:Nat) (p:Ex) (l:Nat),lo<=k->k<e.ts.length->fS o->da o+b<=k->b<k->lc a e D o k=.ok p l->fS p/\da p+b<=l/\b<l/\l<e.ts.length:=by
 intro D;induction D with
 |zero=>intro o k b p l _ _ _ _ _ c;cases c
 |succ D C=>
  intro o k b p l Q n t J F c;rw[lc]at c;split at c
  ·rename_i A;cases f:c9 e (k+1)with
   |bad O T=>rw[f]at c;cases c
   |ok s H=>
    rw[f]at c;dsimp only at c;obtain⟨M,rfl,G⟩:=oh E B (E.step n A) f;exact C _ _ b p l om G (.one (.V7 M) t) (by rw[gp];simp only[cC,cS];omega) om c
  ·split at c
   ·rename_i z;cases f:gV a e [41] 9 [o] (k+1)with
    |bad O T=>rw[f]at c;cases c
    |ok U H=>
     rw[f]at c;dsimp only at c;obtain⟨N,S,W,R⟩:=yG E B (k:=9) (kids:=[o]) dc dc L (by simpa using t) om (E.step n z) (fun X I P x=>.call I (by rw[YN,x,YP];omega)) f;simp only[cS]at S;exact C _ _ b p l om R N om om c
   ·cases c;exact⟨t,J,F,n⟩
theorem JO(x:e.Wf)(b:e.Nm){lo:Nat}(n:Good d e lo)(c:eT a e (lo+1)):eT (jB d a e) e lo:=by
 intro t B D o l k;rw[jB]at k;split at k
 ·cases k
 ·rename_i s f p;obtain⟨z,C,E,A⟩:=JM x b n c t s f o l p;exact JN x b c _ s f t B D om A z C E k
theorem M7(A:e.Wf){lo:Nat}(s:eT (jB d a e) e lo):∀k,eT (ov d a e k) e lo:=by
 intro k;induction k with
 |zero=>intro o B x _ _ b;cases b
 |succ k z=>
  intro o B x n c b;rw[ov]at b;split at b
  ·rename_i f;obtain⟨C,t,rfl⟩:=e6 b;obtain⟨l,D,E,p⟩:=z (o+1) C x om (A.step c f) t;exact⟨.one (.one (by simp[M0])) l,by rw[WN,gp];simp only[cC,cS];omega,om,p⟩
  ·split at b
   ·rename_i f;obtain⟨l,D,E,p⟩:=Da A (A.step c f) b;exact⟨l,om,om,p⟩
   ·exact s o B x n c b
theorem M8(M:e.Wf){lo:Nat}(n:eT (pd d a e) e lo):∀p,eT (mm d a e p) e lo:=by
 intro p;induction p with
 |zero=>intro t Q H _ _ b;cases b
 |succ p I=>
  intro t Q H C k b;rw[mm]at b;split at b
  ·rename_i z;obtain⟨A,G,rfl⟩:=e6 b;obtain⟨o,K,L,x⟩:=I (t+1) A H om (M.step k z) G;exact⟨.one (.one (by simp[M0])) o,by rw[WN,gp];simp only[cC,cS];omega,om,x⟩
  ·cases f:pd d a e t with
   |bad R S=>rw[f]at b;cases b
   |ok A l=>
    rw[f]at b;dsimp only at b;obtain⟨o,K,L,x⟩:=n t A l C k f;split at b
    ·cases b;exact⟨o,K,L,x⟩
    ·rename_i s F;obtain⟨c,J⟩:=Hg F;obtain⟨N,D,rfl⟩:=e6 b;obtain⟨B,P,O,E⟩:=n (l+1) N H om (M.step x J) D;refine⟨.two (.two ?_) o B,by rw[gp];simp only[cC,cS];omega,om,E⟩;simp only[YM,YQ,or_false]at c;rcases c with rfl|rfl|rfl<;>simp[Be]
theorem P3(c:e.Wf)(f:e.Nm){lo:Nat}(s:Good d e lo)(k:eT a e (lo+1)):eT (MB d a e) e lo:=by
 have o:=M7 c (JO c f s k) e.ts.length;have l:eT (R2 d a e) e lo:=tI c (fun x b=>by simp at b;subst b;simp[Be]) o;have t:eT (pd d a e) e lo:=tI c (fun x b=>by simp at b;rcases b with rfl|rfl|rfl<;>simp[Be]) l;have n:=M8 c t e.ts.length;have p:eT (R3 d a e) e lo:=tI c (fun x b=>by simp at b;subst b;simp[Be]) n;exact tI c (fun x b=>by simp at b;subst b;simp[Be]) p
theorem pC(C:e.Wf){p n:Nat}{t:Ty}(o:Good d e p)(x:p<e.ts.length)(b:dv d e p=.ok t n):gu t/\cJ t+p<=n/\p<n/\n<e.ts.length:=by
 rw[dv]at b;cases f:cu e [[91]] p with
 |bad A B=>rw[f]at b;cases b
 |ok H E=>
  rw[f]at b;dsimp only at b;obtain⟨rfl,s,_⟩:=jE C x f;cases c:d (p+1)with
  |bad A B=>rw[c]at b;cases b
  |ok t1 l=>
   rw[c]at b;dsimp only at b;obtain⟨D,I,J,G⟩:=o (p+1) t1 l om s c;cases k:cu e [[93]] l with
   |bad A B=>rw[k]at b;cases b
   |ok H F=>
    rw[k]at b;cases b;obtain⟨rfl,z,_⟩:=jE C G k;exact⟨D,om,om,z⟩
theorem M9(A:e.Wf)(x:e.Nm){lo:Nat}(k:eT a e lo):eT (qX a e) e lo:=by
 intro B N P H l b;rw[qX]at b;cases f:c9 e B with
 |bad F J=>rw[f]at b;cases b
 |ok s G=>
  rw[f]at b;dsimp only at b;obtain⟨z,rfl,n⟩:=oh A x l f;cases c:eJ a e [61] (B+1)with
  |bad F J=>rw[c]at b;cases b
  |ok M K=>
   rw[c]at b;dsimp only at b;obtain⟨D,O,Q,I⟩:=lj A k om n c;obtain⟨L,p,rfl⟩:=e6 b;obtain⟨o,E,C,t⟩:=lj A k om I p;exact⟨.two (.V8 z) D o,by rw[gp];simp only[cC,cS];omega,om,t⟩
theorem JP(B:e.Wf){lo:Nat}(s:Good d e lo)(l:eT a e lo):eT (kH d a e) e lo:=by
 intro M T E K p b;rw[kH]at b;cases f:dv d e M with
 |bad C G=>rw[f]at b;cases b
 |ok F n=>
  rw[f]at b;dsimp only at b;obtain⟨t1,t2,t3,t4⟩:=pC B (fun A F E D=>s A F E om) p f;cases c:a n with
  |bad C G=>rw[c]at b;cases b
  |ok J o=>
   rw[c]at b;dsimp only at b;obtain⟨H,U,V,N⟩:=l n J o om t4 c;cases k:eJ a e [116,104,101,110] o with
   |bad C G=>rw[k]at b;cases b
   |ok R L=>
    rw[k]at b;dsimp only at b;obtain⟨z,Q,O,d2⟩:=lj B l om N k;obtain⟨S,x,rfl⟩:=e6 b;obtain⟨t,I,P,d3⟩:=lj B l om d2 x;exact⟨.three (.cond t1) H z t,by rw[gp];simp only[cC,cS];omega,om,d3⟩
theorem Hj(s:e.Wf)(C:e.Nm){lo:Nat}(x:Good d e lo)(p:eT a e lo):eT (iW d a e) e lo:=by
 intro O R G M t b;rw[iW]at b;cases k:dv d e O with
 |bad E I=>rw[k]at b;cases b
 |ok H o=>
  rw[k]at b;dsimp only at b;obtain⟨t1,t2,t3,t4⟩:=pC s (fun D H G F=>x D H G om) t k;cases c:a o with
  |bad E I=>rw[c]at b;cases b
  |ok L n=>
   rw[c]at b;dsimp only at b;obtain⟨K,S,V,P⟩:=p o L n om t4 c;cases l:cu e [[123]] n with
   |bad E I=>rw[l]at b;cases b
   |ok U N=>
    rw[l]at b;dsimp only at b;obtain⟨rfl,z,_⟩:=jE s P l;obtain⟨W,A,rfl⟩:=e6 b;obtain⟨⟨f,J⟩,Q,B⟩:=tH (I:=PI 13 (n+1)) s PI.mono (JJ s C p) om z ⟨q6.nil 13,by rw[mq];omega⟩ A;refine⟨.mk (.XO t1 (xV f) ?_) (xU f (by simpa using K)),?_,om,B⟩
    ·rw[YN,Bf f,if_neg dc,YP];omega
    ·rw[vm];simp only[cC,cS];omega
theorem JQ(x:e.Wf)(A:e.Nm){lo:Nat}(E:Good d e lo)(p:eT a e lo):eT (jb d a e) e lo:=by
 intro W v P U C b;rw[jb]at b;cases n:dv d e W with
 |bad z B=>rw[n]at b;cases b
 |ok Q c=>
  rw[n]at b;dsimp only at b;obtain⟨t1,t2,t3,t4⟩:=pC x (fun N Q P O=>E N Q P om) C n;cases l:c9 e c with
  |bad z B=>rw[l]at b;cases b
  |ok s m=>
   rw[l]at b;dsimp only at b;obtain⟨M,rfl,F⟩:=oh x A t4 l;cases o:cu e [[44]] (c+1)with
   |bad z B=>rw[o]at b;cases b
   |ok y V=>
    rw[o]at b;dsimp only at b;obtain⟨rfl,G,_⟩:=jE x F o;cases t:c9 e (c+1+1)with
    |bad z B=>rw[t]at b;cases b
    |ok r g=>
     rw[t]at b;dsimp only at b;obtain⟨K,rfl,D⟩:=oh x A G t;cases f:eJ a e [105,110] (c+1+1+1)with
     |bad z B=>rw[f]at b;cases b
     |ok u I=>
      rw[f]at b;dsimp only at b;obtain⟨R,w,aa,X⟩:=lj x p om D f;cases k:eJ a e [102,114,111,109] I with
      |bad z B=>rw[k]at b;cases b
      |ok j T=>
       rw[k]at b;dsimp only at b;obtain⟨L,i,Y,d2⟩:=lj x p om X k;obtain⟨q,J,rfl⟩:=e6 b;obtain⟨H,S,h,d3⟩:=lj x p om d2 J;exact⟨.three (.fold t1 M K) R L H,by rw[gp];simp only[cC,cS];omega,om,d3⟩
theorem JR(t:e.Wf)(D:e.Nm){lo:Nat}(z:Good d e lo)(o:eT a e lo):eT (funcF d a e) e lo:=by
 intro s T P L x c;rw[funcF]at c;cases n:cu e [[40]] s with
 |bad I Q=>rw[n]at c;cases c
 |ok W K=>
  rw[n]at c;dsimp only at c;obtain⟨rfl,A,_⟩:=jE t x n;cases f:fA (hR d a e) e [41] [] (s+1)with
  |bad I Q=>rw[f]at c;cases c
  |ok E R=>
   rw[f]at c;dsimp only at c;obtain⟨⟨k,G⟩,O,B⟩:=tH (I:=PI 8 (s+1)) t PI.mono (JK t D z o) om A ⟨q6.nil 8,by rw[mq];omega⟩ f;obtain⟨J,C,rfl⟩:=e6 c;obtain⟨H,U,X,M⟩:=lj t o om B C;have p:=vm (k:=8) (n:=[]) (types:=[]) (kids:=[]) (l:=E);rw[jv,da]at p;refine⟨.mk (.func (xV k) ?_) ?_,?_,om,M⟩
   ·rw[List.nil_append,YN,Bf k,if_pos rfl,YP]
   ·intro F b;rcases YO.1 b with b|b
    ·exact xU (n:=[]) (types:=[]) (kids:=[]) k sm F b
    ·obtain rfl:=YL.1 b;exact H
   ·show da (.mk 8 [] [] [] 0 [] _ (_++[J]))+s<=P;rw[da,l2];simp only[cS,cC]at p⊢;omega
theorem Bg(x:e.Wf)(k:e.Nm):∀(B n:Nat),eT (AW e B) e n:=by
 intro B;induction B with
 |zero=>intro n o z t _ _ f;cases f
 |succ B l=>
  intro n o z t G A f;have p:∀n,Good (de e e.ts.length) e n:=fun n o I t _=>qd x k e.ts.length o I t (YT _);have s:∀{fn:Nat->PR Ex},eT fn e 0->o+1<e.ts.length->fn (o+1)=.ok z t->fS z/\da z+o<=t/\o<t/\t<e.ts.length:=fun C D E=>by
   obtain⟨F,J,K,H⟩:=C (o+1) z t (YT _) D E;exact⟨F,om,om,H⟩
  rw[AW,y5]at f;have c:(e.tok o).kind=5->o+1<e.ts.length:=fun b=>x.go o _ (bZ A) om;split at f
  ·rename_i b;exact s (M9 x k (l 0)) (c b.1) f
  ·split at f
   ·rename_i b;exact s (JP x (p 0) (l 0)) (c b.1) f
   ·split at f
    ·rename_i b;exact s (Hj x k (p 0) (l 0)) (c b.1) f
    ·split at f
     ·rename_i b;exact s (JQ x k (p 0) (l 0)) (c b.1) f
     ·split at f
      ·rename_i b;exact s (JR x k (p 0) (l 0)) (c b.1) f
      ·exact P3 x k (p 0) (l 1) o z t (YT _) A f
end Go.Proofs.YtpejealjkmhkgaaGreatDoor
