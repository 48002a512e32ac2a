/- Part of the proof. -/
import Derived.Test.YthlkhjchcjflkaaGreatDoorKAp
set_option linter.all false
set_option maxHeartbeats 16000000
set_option maxRecDepth 100000
open Nat renaming not_lt_zero->Yl,le_refl->Yq,zero_le->Yr,le_of_ble_eq_true->Yv,not_le_of_lt->YH,not_lt->YN,beq->YT
open List renaming getElem?_eq_getElem->Ym,getElem_mem->Yo,take_of_length_le->Yp,map->Ys,cons_append->Yt,length_cons->Yu,isPrefixOf->Yw,eq_nil_of_length_eq_zero->Yx,take_add_one->Yy,length_append->YA,length_take->YD,length_map->YF,append_assoc->YG,nil_append->YI,length_nil->YJ,map_cons->YR,take_append_drop->YS
open Int renaming ofNat_eq_natCast->Yn,ofNat->YL
open Bool renaming true_and->Yz,false_and->YB,true_or->YC,and_true->YE,or_true->YK,false_eq_true->YM,and_eq_true->YO,and_false->YP
open Option renaming toList->YQ
namespace Go.Proofs.YthlkhjchcjflkaaGreatDoor
open Go.AM Go.VM
mutual
def di:Ty->Nat
 |.mk _ _ _ args fields=>cL args+rI fields+1
def cL:List Ty->Nat
 |[]=>0
 |t::l=>di t+cL l
def rI:List (List UInt8×Ty×Bool)->Nat
 |[]=>0
 |(_,t,_)::l=>di t+rI l
end
mutual
def mQ:Ty->Nat
 |.mk _ _ _ args fields=>max (gK args) (zu fields)+1
def gK:List Ty->Nat
 |[]=>0
 |t::l=>max (mQ t) (gK l)
def zu:List (List UInt8×Ty×Bool)->Nat
 |[]=>0
 |(_,t,_)::l=>max (mQ t) (zu l)
end
mutual
def qf:Ty->Bool
 |.mk _ _ _ args fields=>decide (32<fields.length)||decide (8<args.length)||nR args||K7 fields
def nR:List Ty->Bool
 |[]=>false
 |t::l=>qf t||nR l
def K7:List (List UInt8×Ty×Bool)->Bool
 |[]=>false
 |(_,t,_)::l=>qf t||K7 l
end
def fI(l:List nB):List Ty:=l.map fun a=>a.2.1
def eL:Ty->List Ty
 |.mk _ _ _ b a=>b++fI a
theorem hW(a b:List Ty):cL (a++b)=cL a+cL b:=by
 induction a with
 |nil=>simp[cL]
 |cons e a c=>simp only[Yt,cL,c];omega
theorem qR(l:List nB):rI l=cL (fI l):=by
 induction l with
 |nil=>rfl
 |cons b l a=>obtain⟨c,e,f⟩:=b;simp only[rI,fI,YR,cL]at a⊢;rw[a]
theorem gl(t:Ty):di t=cL (eL t)+1:=by
 obtain⟨e,f,c,b,a⟩:=t;rw[di,eL,hW,qR]
theorem yD(a b:List Ty):gK (a++b)=max (gK a) (gK b):=by
 induction a with
 |nil=>simp[gK]
 |cons e a c=>simp only[Yt,gK,c];omega
theorem JI(l:List nB):zu l=gK (fI l):=by
 induction l with
 |nil=>rfl
 |cons b l a=>obtain⟨c,e,f⟩:=b;simp only[zu,fI,YR,gK]at a⊢;rw[a]
theorem rJ(t:Ty):mQ t=gK (eL t)+1:=by
 obtain⟨e,f,c,b,a⟩:=t;rw[mQ,eL,yD,JI]
theorem MA(a b:List Ty):nR (a++b)=(nR a||nR b):=by
 induction a with
 |nil=>simp[nR]
 |cons e a c=>simp only[Yt,nR,c,Bool.or_assoc]
theorem OZ(l:List nB):K7 l=nR (fI l):=by
 induction l with
 |nil=>rfl
 |cons b l a=>obtain⟨c,e,f⟩:=b;simp only[K7,fI,YR,nR]at a⊢;rw[a]
def jl:Ty->Bool
 |.mk _ _ _ b a=>decide (32<a.length)||decide (8<b.length)
theorem vw(t:Ty):qf t=(jl t||nR (eL t)):=by
 obtain⟨e,f,c,b,a⟩:=t;rw[qf,eL,MA,OZ,jl,Bool.or_assoc]
theorem kq(t:Ty):0<di t:=by rw[gl];omega
theorem fu(l:List Ty):l.length<=cL l:=by
 induction l with
 |nil=>simp
 |cons b l a=>have:=kq b;simp only[Yu,cL];omega
theorem gG{l:List Ty}{t:Ty}(h:t∈l):di t<=cL l:=by
 induction l with
 |nil=>simp at h
 |cons b l a=>
  rcases List.mem_cons.1 h with rfl|h
  ·simp only[cL];omega
  ·have:=a h;simp only[cL];omega
theorem MB(n:Nat):∀a:Ty,di a<=n->mQ a<=di a:=by
 induction n with
 |zero=>intro a h;have:=kq a;omega
 |succ n e=>
  intro a h;rw[gl]at h⊢;rw[rJ];have:∀b:List Ty,cL b<=n->gK b<=cL b:=by
   intro b;induction b with
   |nil=>intro _;simp[gK]
   |cons i b c=>
    intro f;simp only[cL,gK]at f⊢;have:=e i om;have:=c om;omega
  have:=this _ (by omega:cL (eL a)<=n);omega
variable{d:List (List D)}
theorem eX.len{l:List Ty}(c:eX l d):d.length=l.length:=by
 induction l generalizing d with
 |nil=>cases c;rfl
 |cons e l a=>cases c with|cons _ b=>simp only[Yu,a b]
theorem eX.get{l:List Ty}(n:eX l d){i:Nat}(a:i<l.length):∃b,d[i]?=some b/\hU l[i] b:=by
 induction l generalizing d i with
 |nil=>simp at a
 |cons h l c=>
  cases n with
  |cons f e=>
   cases i with
   |zero=>exact⟨_,rfl,f⟩
   |succ i=>obtain⟨b,h,o⟩:=c e (i:=i) (by simpa using a);exact⟨b,by simpa using h,o⟩
theorem eX.KY{l b:List Ty}{a:List (List D)}(i:eX l d)(c:eX b a):eX (l++b) (d++a):=by
 induction l generalizing d with
 |nil=>cases i;exact c
 |cons n l e=>cases i with|cons h f=>exact .cons h (e f)
theorem EH.len{l:List nB}(c:EH l d):d.length=l.length:=by
 induction l generalizing d with
 |nil=>cases c;rfl
 |cons e l a=>cases c with|cons _ b=>simp only[Yu,a b]
theorem EH.get{l:List nB}(t:EH l d){i:Nat}(b:i<l.length):∃c:FE,d[i]?=some (fe c)/\l[i].1=c.n/\l[i].2.2=c.o/\hU l[i].2.1 c.ty:=by
 induction l generalizing d i with
 |nil=>simp at b
 |cons p l f=>
  cases t with
  |cons a h=>
   cases i with
   |zero=>
    obtain⟨u,w,e,n,o,rfl⟩:=a.eG;exact⟨⟨_,u,w,e,n,o,_,[],.cC⟩,Z,Z,Z,a⟩
   |succ i=>obtain⟨s,p,v⟩:=f h (i:=i) (by simpa using b);exact⟨s,by simpa using p,v⟩
inductive FG:List Ty->D->Prop
 |nil:FG [] .cC
 |ps {b o cap:Nat} {l:List Ty} {els:List (List D)} (h:eX l els):FG l (.ps b o 5 cap els)
def Tu:Nat->Bool:=fun a=>YT a 19
def rK(c:Nat)(b n:List UInt8)(a f:D):List V:=[.d (.int .i64 (YL c)),.d (.str b),.d (.str n),.d a,.d f]
def K8(c:List V):List (List D)->VS
 |[]=>[.box c]
 |e::b=>[.box c,.row 5 ((e::b).map fun a=>a.map V.d)]
def K9:List (List D)->V
 |[]=>.d .cC
 |_::a=>.ms 1 5 0 (a.length+1) (a.length+1)
variable{k:Nat->Nat}
theorem Df(b:List D)(c:List (List D))(a:List D):some (cU.row 5 (List.take (c.length+1) (List.drop 0 (Ys (fun a=>Ys V.d a) (b::c)))++[a.map V.d]))=some (eC k (.row 5 (Ys (fun a=>Ys V.d a) (b::(c++[a]))))):=by
 rw[mM,List.drop_zero,Yp sm];simp
theorem Hh(c:Nat)(a:List (List D))(b:List D):some (V.ms c 5 0 (a.length+1+1) (a.length+1+1))=some (V.ms c 5 0 ((a++[b]).length+1) ((a++[b]).length+1)):=by simp
variable{q:VS}
theorem hX{c:List V}{l:List Ty}{els:List (List D)}(a n:Nat)(e:n=els.length)(i:nth q a=some (.row 5 (els.map fun f=>f.map V.d)))(o:eX l els):
  cR 0 (.ret (.ms (a+1) 5 0 n n)) (.box c::q) fun p b=>b=[]/\cX p=true/\∃f,FG l f/\p=.ret (.d f):=by
 refine cR.freeze (a+1) (es:=5) (l:=els) i (ed els) (fun _=>⟨Z,by simp[e]⟩) (fun h=>?_);have s:sU (a+1) h els (.ret (.ms (a+1) 5 0 n n))=.ret (.d (.ps h (0*5) 5 n els)):=by
  show cZ.ret (iW (a+1) h els (.ms (a+1) 5 0 n n))=_;rw[iW,gE];show cZ.ret (.d (.ps h (0*5) 5 n ((els.drop 0).take n)))=_;rw[gD _ _ e]
 rw[s];refine cR.drop 0 Z (by rw[mZ]) rfl (cR.now rfl ?_);exact⟨Z,Z,_,.ps o,Z⟩
theorem pa{c n:Nat}(b:c<=4294967296)(a:n=1:=by rfl):(c+n)*88<=eE/\c+n<=eE:=by
 unfold eE;omega
theorem tX(a:List D)(b:List (List D))(e:b.length+1<4294967296):(0+(Ys (fun c=>Ys V.d c) (a::b)).length)*88<=eE/\0+(Ys (fun c=>Ys V.d c) (a::b)).length<=eE:=by
 unfold eE;simp only[YF,Yu];omega
theorem vx(a:List D)(c:List (List D)):some (cU.row 5 (List.take 0 (List.drop 0 [])++Ys (fun b=>Ys V.d b) (a::c)))=some (eC k (.row 5 (Ys (fun b=>Ys V.d b) (a::c)))):=by
 rw[mM];rfl
theorem MC(e:Nat)(a:List D)(b:List (List D)):some (V.ms e 5 0 (0+(Ys (fun c=>Ys V.d c) (a::b)).length) (0+(Ys (fun c=>Ys V.d c) (a::b)).length))=some (V.ms e 5 0 (b.length+1) (b.length+1)):=by simp
variable{j:Nat}
theorem tY{l:List nB}(a:j<l.length):fI (l.take (j+1))=fI (l.take j)++[l[j].2.1]:=by
 unfold fI;rw[Yy,Ym a,List.map_append];rfl
theorem Hi(P:Nat)(R n:List UInt8)(l:List Ty)(a:List nB)(X f:D)(V:fK l X)(z:eP a f)(j:l.length+a.length<4294967296):
  b3 C cn sY [.agg (rK P R n X f)] [] fun y T=>T=[]/\cX y=true/\∃d,FG (l++fI a) d/\y=.ret (.d d):=by
 refine cy Tu (fun _=>Z) ?_;refine cA ?_;cases V with
 |nil=>
  cases z with
  |nil=>
   refine b5.loop ?_;refine a6 0 ⟨Z,Z,.cC,.nil,Z⟩
  |ps z=>
   rename_i x w e h;have B:=z.len;refine cw (eh:=[(3,K9 []),(10,.d (.ps x w 7 e h)),(11,b6 a.length),(12,b6 0)]) (fN:=K8 (rK P R n .cC (.ps x w 7 e h)) []) (.same ⟨Z,Z,int_eq (by rw[B]),rfl,tv⟩ rfl) ?_;refine b5.iter (fun i:Nat×List (List D)=>[(3,K9 i.2),(10,.d (.ps x w 7 e h)),(11,b6 a.length),(12,b6 i.1)]) (fun i=>K8 (rK P R n .cC (.ps x w 7 e h)) i.2) (fun i=>a.length-i.1)
    (fun i=>i.1<=a.length/\eX ([]++fI (a.take i.1)) i.2) ?_ (0,[]) ⟨Yr _,by exact .nil⟩
   rintro⟨s,p⟩ ⟨F,b⟩;have F:s<=a.length:=F;have b:eX ([]++fI (a.take s)) p:=b;have t:=b.len;rw[YA,fI,YF,YD]at t;try simp only[YJ]at t
   apply aZ<;>intro H
   ·have c:s<a.length:=fq H;obtain⟨i,M,_,_,G⟩:=z.get c;have o:eX ([]++fI (a.take (s+1))) (p++[i.ty]):=by rw[tY c,<-YG];exact b.snoc G
    refine bZ Z ?_;refine b7 (fe i) (by rw[cz];exact M) ?_;cases p with
    |nil=>
     intro L;refine a7 Z (a7 ⟨Yv Z,Yv Z⟩ ?_);refine⟨(s+1,[i.ty]),⟨c,o⟩,by show a.length-(s+1)<a.length-s;omega,?_,rfl,rfl⟩;exact .pick 1 [0,2] ⟨Z,Z,Z,int_eq (cq om),tv⟩ Z Z Z Z Z dc ⟨Z,Z,Z,Z,tv⟩
    |cons N y=>
     intro L;have E:y.length+1<=4294967296:=by simp only[Yu]at t;omega
     refine a7 Z (a7 ⟨Z,Z,by simp,Yq _,pa E⟩ ?_);refine a1 Z (a1 (dZ (y.length+1)) ?_);refine⟨(s+1,N::(y++[i.ty])),⟨c,o⟩,by show a.length-(s+1)<a.length-s;omega,?_,rfl,rfl⟩;exact .pick 1 [0,3] ⟨Hh 3 y i.ty,Z,Z,int_eq (cq om),tv⟩ Z Z Z Z Z dc ⟨Z,Z,Df N y i.ty,fs _ _ _,tv⟩
   ·have c:a.length<=s:=dM H;rw[Yp c]at b;cases p with
    |nil=>
     have A: []++fI a=[]:=Yx b.len.symm;refine a6 0 ⟨Z,Z,.cC,?_,Z⟩;rw[A];exact .nil
    |cons N y=>exact hX 0 (y.length+1) rfl rfl b
 |ps W O=>
  rename_i g Y I J;cases J with
  |nil=>exact absurd rfl O
  |cons v u=>
   have U:=W.len;have K:u.length+1<4294967296:=by simp only[Yu]at U;omega
   refine a7 Z (a7 ⟨Z,Z,Yq _,Yq _,tX v u K⟩ ?_);refine a1 Z (a1 Z ?_);cases z with
   |nil=>
    refine b5.loop ?_;refine hX (els:=v::u) 1 _ sm ?_ ?_
    ·exact Z
    ·simpa [fI]using W
   |ps z=>
    rename_i x w e h;have B:=z.len;refine cw (eh:=[(3,K9 (v::u)),(10,.d (.ps x w 7 e h)),(11,b6 a.length),(12,b6 0)]) (fN:=K8 (rK P R n (.ps g Y 5 I (v::u)) (.ps x w 7 e h)) (v::u)) (.pick 1 [0,2] ⟨MC 2 v u,Z,int_eq (by rw[B]),rfl,tv⟩ rfl rfl rfl rfl rfl dc ⟨rfl,rfl,vx v u,fs _ _ _,tv⟩) ?_;refine b5.iter (fun i:Nat×List (List D)=>[(3,K9 i.2),(10,.d (.ps x w 7 e h)),(11,b6 a.length),(12,b6 i.1)]) (fun i=>K8 (rK P R n (.ps g Y 5 I (v::u)) (.ps x w 7 e h)) i.2) (fun i=>a.length-i.1)
     (fun i=>i.1<=a.length/\eX (l++fI (a.take i.1)) i.2) ?_ (0,(v::u)) ⟨Yr _,by simpa [fI]using W⟩
    rintro⟨s,p⟩ ⟨F,b⟩;have F:s<=a.length:=F;have b:eX (l++fI (a.take s)) p:=b;have t:=b.len;rw[YA,fI,YF,YD]at t;try simp only[YJ]at t
    apply aZ<;>intro H
    ·have c:s<a.length:=fq H;obtain⟨i,M,_,_,G⟩:=z.get c;have o:eX (l++fI (a.take (s+1))) (p++[i.ty]):=by rw[tY c,<-YG];exact b.snoc G
     refine bZ Z ?_;refine b7 (fe i) (by rw[cz];exact M) ?_;cases p with
     |nil=>
      intro L;refine a7 Z (a7 ⟨Yv Z,Yv Z⟩ ?_);refine⟨(s+1,[i.ty]),⟨c,o⟩,by show a.length-(s+1)<a.length-s;omega,?_,rfl,rfl⟩;exact .pick 1 [0,2] ⟨Z,Z,Z,int_eq (cq om),tv⟩ Z Z Z Z Z dc ⟨Z,Z,Z,Z,tv⟩
     |cons N y=>
      intro L;have E:y.length+1<=4294967296:=by simp only[Yu]at t;omega
      refine a7 Z (a7 ⟨Z,Z,by simp,Yq _,pa E⟩ ?_);refine a1 Z (a1 (dZ (y.length+1)) ?_);refine⟨(s+1,N::(y++[i.ty])),⟨c,o⟩,by show a.length-(s+1)<a.length-s;omega,?_,rfl,rfl⟩;exact .pick 1 [0,3] ⟨Hh 3 y i.ty,Z,Z,int_eq (cq om),tv⟩ Z Z Z Z Z dc ⟨Z,Z,Df N y i.ty,fs _ _ _,tv⟩
    ·have c:a.length<=s:=dM H;rw[Yp c]at b;cases p with
     |nil=>
      have A:l++fI a=[]:=Yx b.len.symm;refine a6 0 ⟨Z,Z,.cC,?_,Z⟩;rw[A];exact .nil
     |cons N y=>exact hX 0 (y.length+1) rfl rfl b
theorem vy(t:Ty)(c:List D)(e:hU t c)(i:di t<4294967296){σ:VS}{K:cZ->VS->Prop}(n:∀c,FG (eL t) c->K (.ret (.d c)) σ):b3 C cn sY [.agg (c.map V.d)] σ K:=by
 cases e with
 |mk o f=>
  rename_i p l h b a v w;have y:=fu (eL (.mk p l h b a));rw[gl]at i;have u:(eL (.mk p l h b a)).length=b.length+a.length:=by simp[eL,fI]
  exact b3.closed (P:=fun s=>∃c,FG (b++fI a) c/\s=.ret (.d c)) (Hi p l h b a v w o f om) rfl (fun s ⟨c,x,z⟩=>by rw[z];exact n c x)
theorem w2{l:List Ty}(a:j<l.length):gK (l.take (j+1))=max (gK (l.take j)) (mQ l[j]):=by
 rw[Yy,Ym a,yD];simp[gK]
theorem pZ{l:List Ty}(a:j<l.length):cL (l.take (j+1))=cL (l.take j)+di l[j]:=by
 rw[Yy,Ym a,hW];simp[cL]
theorem lW(l:List Ty)(a:Nat):cL (l.take a)<=cL l:=by
 have b:=hW (l.take a) (l.drop a);rw[YS]at b;omega
theorem AU(l:List Ty):gK l<=cL l:=by
 induction l with
 |nil=>simp[gK]
 |cons b l a=>have:=MB _ b (Yq _);simp only[gK,cL];omega
theorem Hj(n:Nat)(z:∀(t:Ty) (i:List D),di t<=n->hU t i->∀{v:VS} {A:cZ->VS->Prop},A (.ret (b6 (mQ t))) v->b3 C cn k9 [.agg (i.map V.d)] v A) 
  (t:Ty) (i:List D) (O:di t<=n+1) (T:n<4294967295) (l:hU t i):b3 C cn k9 [.agg (i.map V.d)] [] fun L u=>u=[]/\L=.ret (b6 (mQ t)):=by
 obtain⟨Q,R,x,N,P,rfl⟩:=l.eG;have G:=gl t;refine cB ?_;refine vy t _ l om (fun i s=>?_);rw[rJ];have o:cL (eL t)<=n:=om;generalize eL t=a at s o;have B:=fu a;cases s with
 |nil=>
  refine b5.loop ?_;exact a6 0 ⟨Z,Z⟩
 |ps J=>
  rename_i H E e f;have p:=J.len;refine b5.less (eh:=[(3,b6 0),(7,.d (.ps H E 5 e f)),(8,b6 a.length),(9,b6 0)]) ⟨Z,Z,int_eq (by rw[p]),rfl,tv⟩ ?_;refine b5.iter (fun c:Nat=>[(3,b6 (gK (a.take c))),(7,.d (.ps H E 5 e f)),(8,b6 a.length),(9,b6 c)]) (fun _=>[.box (rK Q R x N P)]) (fun c=>a.length-c) (fun c=>c<=a.length) ?_ 0 (Yr _);intro c S;apply aZ<;>intro w
  ·have b:c<a.length:=fq w;obtain⟨i,y,h⟩:=J.get b;refine bZ Z ?_;obtain⟨U,M,F,W,f2,rfl⟩:=h.eG;refine b7 _ (by rw[cz];exact y) ?_;have K:=gG (Yo b);refine z a[c] _ om h ?_;refine⟨c+1,b,by show a.length-(c+1)<a.length-c;omega,.drop 1 ⟨int_eq ?_,rfl,rfl,int_eq (cq om),tv⟩ rfl rfl rfl rfl rfl rfl rfl,rfl,rfl⟩;rw[w2 b];simp only[Yn];omega
  ·have b:a.length<=c:=dM w;rw[Yp b];have I:=AU a;refine a6 0 ⟨Z,?_⟩;exact congrArg cZ.ret (congrArg V.d (congrArg (D.int .i64) (cq om)))
theorem JJ:∀(e:Nat) (a:Ty) (c:List D),e<4294967295->di a<=e->hU a c->∀{b:VS} {i:cZ->VS->Prop},i (.ret (b6 (mQ a))) b->b3 C cn k9 [.agg (c.map V.d)] b i:=by
 intro e;induction e with
 |zero=>intro a c _ p;have:=kq a;omega
 |succ e l=>
  intro a c t p f b i h;obtain⟨v,w,s,x,u,rfl⟩:=f.eG;exact cN (Hj e (fun a c o n=>l a c om o n) a _ p om f) Z Z h
def jK(o:List V)(b a:List V)(c:jT):VS:=[.box b,.box o,.box a,.fg false,.loop c,.box [.so 4],.box [.fn e7 [] [.bp 5 0,.bp 6 0]]]
variable{m:jT}
theorem lX{o b a:List V}(e:gC 0 o=true)(h:gC 0 b=true)(f:gC 0 a=true)(c:gY 7 (.loop m)=true):mZ 7 (jK o b a m) 7=true:=by
 simp only[jK,mZ,gY,hE 7 o e,hE 7 b h,hE 7 a f,Yz,YE]at c⊢;rw[c];rfl
theorem O0{o c a b:List V}(f:gC 0 o=true)(i:gC 0 c=true)(h:gC 0 a=true)(l:gC 0 b=true)(e:gY 8 (.loop m)=true):mZ 8 (jK o c a m++.box b::q) 8=true:=by
 simp only[jK,Yt,YI,mZ,gY,hE 8 o f,hE 8 c i,hE 8 a h,hE 8 b l,Yz,YE]at e⊢;rw[e];rfl
def y6(n:Nat)(b a:List V)(c:jT):VS:=jK [b6 n] b a c
theorem MD(i e:List V)(p:jT)(f:gC 0 i=true)(h:gC 0 e=true)(s:gY 7 (.loop p)=true)(A:gY 8 (.loop p)=true) 
  (S:∀(n:Nat) (I u:List V) (d:cZ->VS->Prop),n<4294967296->d (.ret (b0 true)) (y6 (n+1) i e p++[.box I])->h7 C cn 4 [.agg u] (y6 n i e p++[.box I]) d) (n:Nat)
  (X:∀(t:Ty) (u:List D),di t<=n->hU t u->∀c,c+di t<4294967296->b3 C cn e7 [.agg (u.map V.d),.bp 5 0,.bp 6 0] (y6 c i e p) fun M o=>o=y6 (c+di t) i e p/\M=.ret (b0 true))
  (t:Ty) (u:List D) (r:di t<=n+1) (B:hU t u) (c:Nat) (z:c+di t<4294967296):
  b3 C cn e7 [.agg (u.map V.d),.bp 5 0,.bp 6 0] (y6 c i e p) fun M o=>o=y6 (c+di t) i e p/\M=.ret (b0 true):=by
 obtain⟨R,T,y,P,Q,rfl⟩:=B.eG;have J:=gl t;refine cB ?_;refine S c (rK R T y P Q) _ _ om ?_;refine vy t _ B om (fun u K=>?_);rw[J];have E:cL (eL t)<=n:=om;have L:c+(cL (eL t)+1)<4294967296:=om;generalize eL t=a at K E L;have g:=fu a;cases K with
 |nil=>
  refine b5.loop ?_;refine cR.drop 7 ?_ ?_ ?_ ?_
  ·exact Z
  ·exact lX Z f h s
  ·exact Z
  exact cR.now Z ⟨Z,Z⟩
 |ps N=>
  rename_i m j v w;have H:=N.len;refine b5.less (eh:=[(12,.d (.ps m j 5 v w)),(13,b6 a.length),(14,b6 0),(2,.bp 6 0)]) ⟨Z,int_eq (by rw[H]),rfl,rfl,tv⟩ ?_;refine b5.iter (fun l:Nat=>[(12,.d (.ps m j 5 v w)),(13,b6 a.length),(14,b6 l),(2,.bp 6 0)]) (fun l=>y6 (c+1+cL (a.take l)) i e p++[.box (rK R T y P Q)]) (fun l=>a.length-l) (fun l=>l<=a.length) ?_ 0 (Yr _);intro l aa;apply aZ<;>intro z
  ·have b:l<a.length:=fq z;obtain⟨u,U,x⟩:=N.get b;refine bZ Z ?_;obtain⟨W,O,G,Y,f2,rfl⟩:=x.eG;refine b7 _ (by rw[cz];exact U) ?_;have q:=gG (Yo b);have F:=pZ b;have k:=lW a (l+1);refine(X a[l] _ om x (c+1+cL (a.take l)) om).pre [.box (rK R T y P Q),.box (rK W O G Y f2)] (lX Z f h s) Z (fun M o N=>?_);obtain⟨rfl,rfl⟩:=N;refine⟨Z,lX Z f h s,Z,?_⟩;refine⟨l+1,b,by show a.length-(l+1)<a.length-l;omega,.drop 8 ⟨rfl,rfl,int_eq (cq om),rfl,tv⟩ rfl rfl ?_ rfl rfl rfl ?_,rfl,rfl⟩
   ·exact O0 Z f h Z A
   ·rw[F,<-Nat.add_assoc];rfl
  ·have b:a.length<=l:=dM z;rw[Yp b];refine cR.drop 7 ?_ ?_ ?_ ?_
   ·exact Z
   ·exact lX Z f h s
   ·exact Z
   refine cR.now Z ⟨?_,Z⟩;rw[show c+(cL a+1)=c+1+cL a from by omega];rfl
theorem O1(b a:List V)(f:jT)(n:gC 0 b=true)(o:gC 0 a=true)(u:gY 7 (.loop f)=true)(i:gY 8 (.loop f)=true) 
  (v:∀(c:Nat) (l h:List V) (y:cZ->VS->Prop),c<4294967296->y (.ret (b0 true)) (y6 (c+1) b a f++[.box l])->h7 C cn 4 [.agg h] (y6 c b a f++[.box l]) y):∀(c:Nat)
  (e:Ty) (h:List D),di e<=c->hU e h->∀s,s+di e<4294967296->b3 C cn e7 [.agg (h.map V.d),.bp 5 0,.bp 6 0] (y6 s b a f) fun A p=>p=y6 (s+di e) b a f/\A=.ret (b0 true):=by
 intro c;induction c with
 |zero=>intro e h z;have:=kq e;omega
 |succ c w=>intro e h z t s x;exact MD b a f n o u i v c w e h z t s x
theorem JK(t:Ty)(f:List D)(b:hU t f)(i:di t<4294967296):b3 C cn pQ [.agg (f.map V.d)] [] fun n a=>a=[]/\n=.ret (b6 (di t)):=by
 obtain⟨o,p,e,h,l,rfl⟩:=b.eG;refine cB ?_;refine cA ?_;refine cA ?_;refine(O1 (rK o p e h l) (rK o p e h l) _ Z Z ?_ ?_ (fun s v f w i c=>?_) _ t _ (Yq _) b 0 om).mono (fun n a u=>?_)
 ·exact Z
 ·exact Z
 ·refine h7.intro ?_;rw[y6,b6,<-cq (a:=s) om]at c;exact c
 ·obtain⟨rfl,rfl⟩:=u;refine a6 0 ⟨Z,?_⟩;show cZ.ret (b6 (0+di t))=_;rw[Nat.zero_add]
theorem Dg(t:Ty)(e:List D)(a:hU t e)(c:di t<4294967296){σ:VS}{K:cZ->VS->Prop}(b:K (.ret (b6 (di t))) σ):b3 C cn pQ [.agg (e.map V.d)] σ K:=by
 obtain⟨i,l,f,n,h,rfl⟩:=a.eG;exact cN (JK t _ a c) Z Z b
def WD:Nat->Bool:=fun a=>YT a 23
def Sy(c:List V)(a:List (List D)):VS:=[.box c,.row 5 (a.map fun b=>b.map V.d)]
def Sz(a:Nat×List (List D)):Tm:=[(1,.bp 0 0),(3,.ms 1 5 0 a.2.length a.2.length),(4,b6 a.1)]
theorem zv(a:List (List D))(b:List D):some (cU.row 5 (List.take a.length (List.drop 0 (Ys (fun b=>Ys V.d b) a))++[b.map V.d]))=some (eC k (.row 5 (Ys (fun b=>Ys V.d b) (a++[b])))):=by
 rw[mM,List.drop_zero,Yp sm];simp
theorem ES(c:Nat)(a:List (List D))(b:List D):some (V.ms c 5 0 (a.length+1) (a.length+1))=some (V.ms c 5 0 (a++[b]).length (a++[b]).length):=by simp
theorem La(c:Nat)(a:List (List D)):some (V.ms c 5 0 (0+(Ys (fun b=>Ys V.d b) a).length) (0+(Ys (fun b=>Ys V.d b) a).length))=some (V.ms c 5 0 a.length a.length):=by simp
theorem ET(K:Nat)(M n:List UInt8)(h:List Ty)(a:List nB)(U f:D)(R:fK h U)(v:eP a f)(Y:h.length+a.length<4294967296):
  b3 C cn np [.agg (rK K M n U f)] [] fun T O=>O=[]/\cX T=true/\∃W,FG (h++fI a) W/\T=.ret (.d W):=by
 refine cy WD (fun _=>Z) ?_;cases R with
 |nil=>
  refine a7 ⟨Z,Z,Yq _,Yq _,Yv Z,Yv Z⟩ ?_;cases v with
  |nil=>
   refine b5.loop ?_;refine hX (els:=[]) 0 _ sm ?_ ?_
   ·exact Z
   ·simpa [fI]using eX.nil
  |ps v=>
   rename_i z y l o;have w:=v.len;refine cw (eh:=Sz (0,[])) (fN:=Sy (rK K M n .cC (.ps z y 7 l o)) []) (.same ⟨Z,Z,Z,tv⟩ Z) ?_;refine b5.iter Sz (fun i=>Sy (rK K M n .cC (.ps z y 7 l o)) i.2) (fun i=>a.length-i.1) (fun i=>i.1<=a.length/\eX ([]++fI (a.take i.1)) i.2) ?_ (0,[]) ⟨Yr _,by simpa [fI]using eX.nil⟩;rintro⟨u,c⟩ ⟨B,b⟩;have B:u<=a.length:=B;have b:eX ([]++fI (a.take u)) c:=b;have x:=b.len;rw[YA,fI,YF,YD]at x;try simp only[YJ]at x
   apply aZ<;>intro F
   ·have e:u<a.length:=w▸fq F;obtain⟨i,I,_,_,E⟩:=v.get e;have t:eX ([]++fI (a.take (u+1))) (c++[i.ty]):=by rw[tY e,<-YG];exact b.snoc E
    refine bZ Z ?_;refine b7 (fe i) (by rw[cz];exact I) ?_;intro Q;refine a7 Z (a7 ⟨Z,Z,by simp,Yq _,pa (show c.length<=4294967296 by omega)⟩ ?_);refine a1 Z (a1 (dZ c.length) ?_);refine⟨(u+1,c++[i.ty]),⟨e,t⟩,by show a.length-(u+1)<a.length-u;omega,?_,rfl,rfl⟩;exact .pick 1 [0,2] ⟨Z,ES 2 c i.ty,int_eq (cq om),tv⟩ Z Z Z Z Z dc ⟨Z,Z,zv c i.ty,fs _ _ _,tv⟩
   ·have e:a.length<=u:=w▸dM F;rw[Yp e]at b;exact hX 0 c.length Z Z b
 |ps S J=>
  rename_i X V G A;cases A with
  |nil=>exact absurd rfl J
  |cons s p=>
   have P:=S.len;have H:p.length+1<4294967296:=by simp only[Yu]at P;omega
   refine a7 Z (a7 ⟨Z,Z,Yq _,Yq _,tX s p H⟩ ?_);refine a1 Z (a1 Z ?_);cases v with
   |nil=>
    refine b5.loop ?_;refine hX (els:=(s::p)) 1 _ sm ?_ ?_
    ·exact Z
    ·simpa [fI]using S
   |ps v=>
    rename_i z y l o;have w:=v.len;refine cw (eh:=Sz (0,(s::p))) (fN:=Sy (rK K M n (.ps X V 5 G (s::p)) (.ps z y 7 l o)) (s::p)) (.pick 1 [0,2] ⟨Z,La 2 (s::p),Z,tv⟩ Z Z Z Z Z dc ⟨Z,Z,vx s p,fs _ _ _,tv⟩) ?_;refine b5.iter Sz (fun i=>Sy (rK K M n (.ps X V 5 G (s::p)) (.ps z y 7 l o)) i.2) (fun i=>a.length-i.1) (fun i=>i.1<=a.length/\eX (h++fI (a.take i.1)) i.2) ?_ (0,(s::p)) ⟨Yr _,by simpa [fI]using S⟩;rintro⟨u,c⟩ ⟨B,b⟩;have B:u<=a.length:=B;have b:eX (h++fI (a.take u)) c:=b;have x:=b.len;rw[YA,fI,YF,YD]at x;try simp only[YJ]at x
    apply aZ<;>intro F
    ·have e:u<a.length:=w▸fq F;obtain⟨i,I,_,_,E⟩:=v.get e;have t:eX (h++fI (a.take (u+1))) (c++[i.ty]):=by rw[tY e,<-YG];exact b.snoc E
     refine bZ Z ?_;refine b7 (fe i) (by rw[cz];exact I) ?_;intro Q;refine a7 Z (a7 ⟨Z,Z,by simp,Yq _,pa (show c.length<=4294967296 by omega)⟩ ?_);refine a1 Z (a1 (dZ c.length) ?_);refine⟨(u+1,c++[i.ty]),⟨e,t⟩,by show a.length-(u+1)<a.length-u;omega,?_,rfl,rfl⟩;exact .pick 1 [0,2] ⟨Z,ES 2 c i.ty,int_eq (cq om),tv⟩ Z Z Z Z Z dc ⟨Z,Z,zv c i.ty,fs _ _ _,tv⟩
    ·have e:a.length<=u:=w▸dM F;rw[Yp e]at b;exact hX 0 c.length Z Z b
theorem to(t:Ty)(c:List D)(e:hU t c)(i:di t<4294967296){σ:VS}{K:cZ->VS->Prop}(n:∀c,FG (eL t) c->K (.ret (.d c)) σ):b3 C cn np [.agg (c.map V.d)] σ K:=by
 cases e with
 |mk o f=>
  rename_i p l h b a v w;have y:=fu (eL (.mk p l h b a));rw[gl]at i;have u:(eL (.mk p l h b a)).length=b.length+a.length:=by simp[eL,fI]
  exact b3.closed (P:=fun s=>∃c,FG (b++fI a) c/\s=.ret (.d c)) (ET p l h b a v w o f om) rfl (fun s ⟨c,x,z⟩=>by rw[z];exact n c x)
theorem EU(n:Nat)(z:∀(t:Ty) (l:List D),di t<=n->hU t l->∀{v:VS} {A:cZ->VS->Prop},A (.ret (b6 (mQ t))) v->b3 C cn iA [.agg (l.map V.d)] v A) 
  (t:Ty) (l:List D) (O:di t<=n+1) (T:n<4294967295) (o:hU t l):b3 C cn iA [.agg (l.map V.d)] [] fun L u=>u=[]/\L=.ret (b6 (mQ t)):=by
 obtain⟨Q,R,x,N,P,rfl⟩:=o.eG;have G:=gl t;refine cB ?_;refine to t _ o om (fun l s=>?_);rw[rJ];have p:cL (eL t)<=n:=om;generalize eL t=a at s p;have B:=fu a;cases s with
 |nil=>
  refine b5.loop ?_;exact a6 0 ⟨Z,Z⟩
 |ps J=>
  rename_i H E f h;have e:=J.len;refine b5.less (eh:=[(3,b6 0),(4,.d (.ps H E 5 f h)),(5,b6 0)]) ⟨Z,Z,Z,tv⟩ ?_;refine b5.iter (fun c:Nat=>[(3,b6 (gK (a.take c))),(4,.d (.ps H E 5 f h)),(5,b6 c)]) (fun _=>[.box (rK Q R x N P)]) (fun c=>a.length-c) (fun c=>c<=a.length) ?_ 0 (Yr _);intro c S;apply aZ<;>intro w
  ·have b:c<a.length:=e▸fq w;obtain⟨l,y,i⟩:=J.get b;refine bZ Z ?_;obtain⟨U,M,F,W,f2,rfl⟩:=i.eG;refine b7 _ (by rw[cz];exact y) ?_;have K:=gG (Yo b);refine z a[c] _ om i ?_;refine⟨c+1,b,by show a.length-(c+1)<a.length-c;omega,.drop 1 ⟨int_eq ?_,rfl,int_eq (cq om),tv⟩ rfl rfl rfl rfl rfl rfl rfl,rfl,rfl⟩;rw[w2 b];simp only[Yn];omega
  ·have b:a.length<=c:=e▸dM w;rw[Yp b];have I:=AU a;refine a6 0 ⟨Z,?_⟩;exact congrArg cZ.ret (congrArg V.d (congrArg (D.int .i64) (cq om)))
theorem Hk:∀(e:Nat) (a:Ty) (c:List D),e<4294967295->di a<=e->hU a c->∀{b:VS} {i:cZ->VS->Prop},i (.ret (b6 (mQ a))) b->b3 C cn iA [.agg (c.map V.d)] b i:=by
 intro e;induction e with
 |zero=>intro a c _ p;have:=kq a;omega
 |succ e l=>
  intro a c t p f b i h;obtain⟨v,w,s,x,u,rfl⟩:=f.eG;exact cN (EU e (fun a c o n=>l a c om o n) a _ p om f) Z Z h
theorem Hl(n:Nat)(z:∀(t:Ty) (l:List D),di t<=n->hU t l->∀{v:VS} {A:cZ->VS->Prop},A (.ret (b6 (di t))) v->b3 C cn iP [.agg (l.map V.d)] v A) 
  (t:Ty) (l:List D) (N:di t<=n+1) (T:n<4294967295) (o:hU t l):b3 C cn iP [.agg (l.map V.d)] [] fun K u=>u=[]/\K=.ret (b6 (di t)):=by
 obtain⟨P,Q,x,M,O,rfl⟩:=o.eG;have G:=gl t;refine cB ?_;refine to t _ o om (fun l s=>?_);rw[gl];have p:cL (eL t)<=n:=om;generalize eL t=a at s p;have B:=fu a;cases s with
 |nil=>
  refine b5.loop ?_;exact a6 0 ⟨Z,Z⟩
 |ps I=>
  rename_i H E f h;have e:=I.len;refine b5.less (eh:=[(3,b6 (1+0)),(4,.d (.ps H E 5 f h)),(5,b6 0)]) ⟨Z,Z,Z,tv⟩ ?_;refine b5.iter (fun c:Nat=>[(3,b6 (1+cL (a.take c))),(4,.d (.ps H E 5 f h)),(5,b6 c)]) (fun _=>[.box (rK P Q x M O)]) (fun c=>a.length-c) (fun c=>c<=a.length) ?_ 0 (Yr _);intro c S;apply aZ<;>intro w
  ·have b:c<a.length:=e▸fq w;obtain⟨l,y,i⟩:=I.get b;refine bZ Z ?_;obtain⟨U,L,F,W,f2,rfl⟩:=i.eG;refine b7 _ (by rw[cz];exact y) ?_;have J:=gG (Yo b);refine z a[c] _ om i ?_;refine⟨c+1,b,by show a.length-(c+1)<a.length-c;omega,.drop 1 ⟨int_eq ?_,rfl,int_eq (cq om),tv⟩ rfl rfl rfl rfl rfl rfl rfl,rfl,rfl⟩;have R:=lW a c;rw[pZ b,<-Nat.add_assoc];exact eb om
  ·have b:a.length<=c:=e▸dM w;rw[Yp b]
   skip
   refine a6 0 ⟨Z,?_⟩;exact congrArg cZ.ret (congrArg V.d (congrArg (D.int .i64) (by rw[Nat.add_comm])))
theorem AV:∀(e:Nat) (a:Ty) (c:List D),e<4294967295->di a<=e->hU a c->∀{b:VS} {i:cZ->VS->Prop},i (.ret (b6 (di a))) b->b3 C cn iP [.agg (c.map V.d)] b i:=by
 intro e;induction e with
 |zero=>intro a c _ p;have:=kq a;omega
 |succ e l=>
  intro a c t p f b i h;obtain⟨v,w,s,x,u,rfl⟩:=f.eG;exact cN (Hl e (fun a c o n=>l a c om o n) a _ p om f) Z Z h
theorem Q8(a b:List UInt8):C.ext eJ ([D.str a,D.str b].map cH)=some (cH (.int .i64 (v8 a b))):=by
 show ext eJ [.string ⟨⟨a⟩⟩,.string ⟨⟨b⟩⟩]=_;rfl
theorem w3(a b:List UInt8){σ:VS}{K:cZ->VS->Prop}(c:K (.ret (.d (.int .i64 (v8 a b)))) σ):b3 C cn pT [cE a,cE b] σ K:=by
 refine cA ?_;refine cA ?_;refine Js (.int .i64 (v8 a b)) (Q8 a b) Z ?_;exact c
theorem EV{a b:List UInt8}(c:cK a b=true):v8 a b= -1:=by rw[v8,c]
theorem O2(i:(C.ff.get j).isSome=true)(f:D)(a:List nB)(u:eP a f)(E:a.length<4294967296) 
  (s:∀(l:FE) (p:Nat) (G:p<a.length),a[p].1=l.n->a[p].2.2=l.o->∀{σ:VS} {K:cZ->VS->Prop},K (.ret (b0 false)) σ->b3 C cn j [fw l] σ K)
  {σ:VS} {K:cZ->VS->Prop} (n:K (.ret (.d (.int .i64 (-1)))) σ):b3 C cn nE [.d f,.fn j [] []] σ K:=by
 refine cA ?_;cases u with
 |nil=>
  refine b5.loop ?_;exact n
 |ps A=>
  rename_i z y e h;have o:=A.len;refine b5.less (eh:=[(0,.d (.ps z y 7 e h)),(1,.fn j [] []),(7,b6 a.length),(8,b6 0)]) ⟨Z,Z,int_eq (by rw[o]),rfl,tv⟩ ?_;refine b5.iter (fun c:Nat=>[(0,.d (.ps z y 7 e h)),(1,.fn j [] []),(7,b6 a.length),(8,b6 c)]) (fun _=>σ) (fun c=>a.length-c) (fun c=>c<=a.length) ?_ 0 (Yr _);intro c F;apply aZ<;>intro x
  ·have b:c<a.length:=fq x;obtain⟨l,v,w,t,B⟩:=A.get b;refine bZ Z ?_;refine b7 _ (by rw[cz];exact v) ?_;refine a8 i ?_;refine s l c b w t ?_;refine⟨c+1,b,by show a.length-(c+1)<a.length-c;omega,.same ⟨rfl,rfl,rfl,int_eq (cq om),tv⟩ rfl,rfl,rfl⟩
  ·exact n
theorem cQ(b:(C.ff.get j).isSome=true)(f:D)(a:List nB)(c:eP a f)(i:a.length<4294967296) 
  (n:∀(e:FE) (l:Nat) (o:l<a.length),a[l].1=e.n->a[l].2.2=e.o->∀{σ:VS} {K:cZ->VS->Prop},K (.ret (b0 false)) σ->b3 C cn j [fw e] σ K)
  {σ:VS} {K:cZ->VS->Prop} (h:K (.ret (b0 false)) σ):b3 C cn mi [.d f,.fn j [] []] σ K:=by
 refine cA ?_;refine O2 b f a c i n ?_;exact h
theorem w4(a:FE){σ:VS}{K:cZ->VS->Prop}(b:K (.ret (b0 a.o)) σ):b3 C cn wI [fw a] σ K:=by
 refine cN (v:=b0 a.o) ?_ Z Z b;refine cB ?_;exact a6 0 ⟨Z,Z⟩
theorem vz(b:FE)(c:dp b.n=true){σ:VS}{K:cZ->VS->Prop}(e:K (.ret (b0 false)) σ):b3 C cn uC [fw b] σ K:=by
 refine cN (v:=b0 false) ?_ Z Z e;refine cB ?_;have a:b.n.length<4294967296:=by
  simp only[dp,YO,decide_eq_true_eq]at c;omega
 refine nq b.n a ?_;refine a6 0 ⟨Z,?_⟩;show cZ.ret (b0 (!(dp b.n)))=_;rw[c];rfl
theorem AW(a:FE){σ:VS}{K:cZ->VS->Prop}(b:K (.ret (cE a.n)) σ):b3 C cn iI [fw a] σ K:=by
 refine cN (v:=cE a.n) ?_ Z Z b;refine cB ?_;exact a6 0 ⟨Z,Z⟩
theorem ow{a:Nat}(b:0<a)(c:a<9223372036854775807):IntKind.i64.wrap (YL a-1)=YL (a-1):=by
 simp only[Yn];rw[wrap64 om om];omega
theorem dn(f:D)(a:List nB)(v:eP a f)(L:a.length<4294967296)(x:lA (·.1) a) 
  {σ:VS} {K:cZ->VS->Prop} (n:K (.ret (b6 0)) σ):b3 C cn n7 [.d f,.fn iI [] []] σ K:=by
 refine cA ?_;cases v with
 |nil=>
  refine b5.loop ?_;exact n
 |ps B=>
  rename_i G F i c;have o:=B.len;refine b5.less (eh:=[(0,.d (.ps G F 7 i c)),(1,.fn iI [] []),(5,b6 1)]) ⟨Z,Z,Z,tv⟩ ?_;refine b5.iter (fun b:Nat=>[(0,.d (.ps G F 7 i c)),(1,.fn iI [] []),(5,b6 b)]) (fun _=>σ) (fun b=>a.length-b) (fun b=>1<=b) ?_ 1 (Yq _);intro b y;apply aZ<;>intro E
  ·have h:b<a.length:=o▸fq E;obtain⟨t,z,A,J,I⟩:=B.get h;obtain⟨u,w,f1,f2,H⟩:=B.get (show b-1<a.length by omega);have e:cK u.n t.n=true:=by
    rw[<-A,<-f1];exact x.lU (Ym om) (Ym h) om
   have s:=ow (a:=b) y om;have l:nth c b=some (fe t):=by rw[cz];exact z
   have p:nth c (b-1)=some (fe u):=by rw[cz];exact w
   repeat first
    |refine bZ s ?_
    |refine bZ rfl ?_
    |refine b7 _ p ?_
    |refine b7 _ l ?_
    |refine b4 ?_
    |refine AW u ?_
    |refine AW t ?_
    |refine w3 u.n t.n ?_
   refine a1 (by rw[EV e];rfl) ?_;refine a1 (by rw[EV e];rfl) ?_;exact⟨b+1,by show 1<=b+1;omega,by show a.length-(b+1)<a.length-b;omega,.same ⟨rfl,rfl,int_eq (cq om),tv⟩ rfl,rfl,rfl⟩
  ·exact n
structure V6 (oa:Bool) (fields:List nB):Prop where
 name:∀x∈fields,dp x.1=true
 Q9:lA (·.1) fields
 oa:oa=false->∀x∈fields,x.2.2=false
inductive nS:Ty->Prop
 |base {k:Nat} (h:k<=4):nS (.mk k [] [] [] [])
 |list {t:Ty}:nS (.mk 5 [] [] [t] [])
 |O3 {fields:List nB} (h:V6 false fields):nS (.mk 6 [] [] [] fields)
 |V7 {fields:List nB} (h:V6 false fields):nS (.mk 7 [] [] [] fields)
 |func {t:Ty} {fields:List nB} (h:V6 true fields):nS (.mk 8 [] [] [t] fields)
 |ref {m n:List UInt8} {args:List Ty} (hm:m=[]∨dp m=true) (hn:jH n=true):nS (.mk 10 m n args [])
theorem eP.cT{f:D}(b:eP [] f):f=.cC∨∃e c a,f=.ps e c 7 a []:=by
 cases b with
 |nil=>exact .inl rfl
 |ps b=>cases b;exact .inr ⟨_,_,_,rfl⟩
variable{r:D}
theorem fK.cT(b:fK [] r):r=.cC:=by
 cases b with
 |nil=>rfl
 |ps b a=>cases b;exact absurd rfl a
theorem fK.lY{t:Ty}(a:fK [t] r):∃f h b e,r=.ps f h 5 b [e]:=by
 cases a with
 |ps a c=>cases a with|cons _ a=>cases a;exact⟨_,_,_,_,rfl⟩
theorem rL{h n:List UInt8}{b:List Ty}{a:List nB}(c:di (.mk j h n b a)<4294967296):a.length<4294967296/\b.length<4294967296:=by
 have f:=fu (eL (.mk j h n b a));rw[gl]at c;have e:(fI a).length=a.length:=by simp[fI]
 rw[eL,YA,e]at f;rw[eL]at c;omega
theorem EW(t:Ty)(A:List D)(h:hU t A)(E:nS t)(w:di t<4294967296):b3 C cn sc [.agg (A.map V.d)] [] fun I z=>z=[]/\I=.ret (b0 true):=by
 refine cB ?_;cases E with
 |base o=>
  rename_i n;cases h with
  |mk c b=>
   obtain rfl:=c.cT;rcases b.cT with rfl|⟨H,G,p,rfl⟩
   ·have i:n=0∨n=1∨n=2∨n=3∨n=4:=om;rcases i with rfl|rfl|rfl|rfl|rfl
    ·repeat refine b1 ?_
     refine cQ Z _ _ eP.nil dc (fun e f a=>absurd a (Yl _)) ?_;exact a6 0 ⟨Z,Z⟩
    ·repeat refine b1 ?_
     refine cQ Z _ _ eP.nil dc (fun e f a=>absurd a (Yl _)) ?_;exact a6 0 ⟨Z,Z⟩
    ·repeat refine b1 ?_
     refine cQ Z _ _ eP.nil dc (fun e f a=>absurd a (Yl _)) ?_;exact a6 0 ⟨Z,Z⟩
    ·repeat refine b1 ?_
     refine cQ Z _ _ eP.nil dc (fun e f a=>absurd a (Yl _)) ?_;exact a6 0 ⟨Z,Z⟩
    ·repeat refine b1 ?_
     refine cQ Z _ _ eP.nil dc (fun e f a=>absurd a (Yl _)) ?_;exact a6 0 ⟨Z,Z⟩
   ·have i:n=0∨n=1∨n=2∨n=3∨n=4:=om;rcases i with rfl|rfl|rfl|rfl|rfl
    ·repeat refine b1 ?_
     refine cQ Z _ _ (eP.ps .nil) dc (fun e f a=>absurd a (Yl _)) ?_;exact a6 0 ⟨Z,Z⟩
    ·repeat refine b1 ?_
     refine cQ Z _ _ (eP.ps .nil) dc (fun e f a=>absurd a (Yl _)) ?_;exact a6 0 ⟨Z,Z⟩
    ·repeat refine b1 ?_
     refine cQ Z _ _ (eP.ps .nil) dc (fun e f a=>absurd a (Yl _)) ?_;exact a6 0 ⟨Z,Z⟩
    ·repeat refine b1 ?_
     refine cQ Z _ _ (eP.ps .nil) dc (fun e f a=>absurd a (Yl _)) ?_;exact a6 0 ⟨Z,Z⟩
    ·repeat refine b1 ?_
     refine cQ Z _ _ (eP.ps .nil) dc (fun e f a=>absurd a (Yl _)) ?_;exact a6 0 ⟨Z,Z⟩
 |list=>
  cases h with
  |mk c b=>
   obtain⟨H,G,p,A,rfl⟩:=c.lY;rcases b.cT with rfl|⟨y,v,l,rfl⟩
   ·repeat refine b1 ?_
    refine cQ Z _ _ eP.nil dc (fun e f a=>absurd a (Yl _)) ?_;exact a6 0 ⟨Z,Z⟩
   ·repeat refine b1 ?_
    refine cQ Z _ _ (eP.ps .nil) dc (fun e f a=>absurd a (Yl _)) ?_;exact a6 0 ⟨Z,Z⟩
 |O3 B=>
  cases h with
  |mk c b=>
   obtain rfl:=c.cT;have u:=B.oa rfl;have x:=(rL w).1;cases b with
   |nil=>
    repeat refine b1 ?_
    refine cQ Z _ _ eP.nil dc (fun e f a=>absurd a (Yl _)) ?_;exact a6 0 ⟨Z,Z⟩
   |ps b=>
    repeat refine b1 ?_
    refine cQ Z _ _ (eP.ps b) om (fun e f a _ s=>fun o=>w4 e (by rw[<-s,u _ (Yo a)];exact o)) ?_;exact a6 0 ⟨Z,Z⟩
 |V7 B=>
  cases h with
  |mk c b=>
   obtain rfl:=c.cT;have u:=B.oa rfl;have x:=(rL w).1;cases b with
   |nil=>
    repeat refine b1 ?_
    refine cQ Z _ _ eP.nil dc (fun e f a=>absurd a (Yl _)) ?_;exact a6 0 ⟨Z,Z⟩
   |ps b=>
    repeat refine b1 ?_
    refine cQ Z _ _ (eP.ps b) om (fun e f a _ s=>fun o=>w4 e (by rw[<-s,u _ (Yo a)];exact o)) ?_;exact a6 0 ⟨Z,Z⟩
 |func B=>
  cases h with
  |mk c b=>
   obtain⟨H,G,p,A,rfl⟩:=c.lY;cases b with
   |nil=>
    repeat refine b1 ?_
    exact a6 0 ⟨Z,Z⟩
   |ps b=>
    repeat refine b1 ?_
    exact a6 0 ⟨Z,Z⟩
 |ref K J=>
  cases h with
  |mk c b=>
   cases c with
   |nil=>
    rcases b.cT with rfl|⟨y,v,l,rfl⟩
    ·repeat refine b1 ?_
     refine cQ Z _ _ eP.nil dc (fun e f a=>absurd a (Yl _)) ?_;exact a6 0 ⟨Z,Z⟩
    ·repeat refine b1 ?_
     refine cQ Z _ _ (eP.ps .nil) dc (fun e f a=>absurd a (Yl _)) ?_;exact a6 0 ⟨Z,Z⟩
   |ps c F=>
    rcases b.cT with rfl|⟨y,v,l,rfl⟩
    ·repeat refine b1 ?_
     refine cQ Z _ _ eP.nil dc (fun e f a=>absurd a (Yl _)) ?_;exact a6 0 ⟨Z,Z⟩
    ·repeat refine b1 ?_
     refine cQ Z _ _ (eP.ps .nil) dc (fun e f a=>absurd a (Yl _)) ?_;exact a6 0 ⟨Z,Z⟩
theorem lr(t:Ty)(f:List D)(a:hU t f)(b:nS t)(e:di t<4294967296){σ:VS}{K:cZ->VS->Prop}(c:K (.ret (b0 true)) σ):b3 C cn sc [.agg (f.map V.d)] σ K:=by
 obtain⟨l,n,h,o,i,rfl⟩:=a.eG;exact cN (EW t _ a b e) Z Z c
variable{g:List UInt8}
theorem jw(a:dp g=true):g.length<4294967296:=by
 simp only[dp,YO,decide_eq_true_eq]at a;omega
theorem nu(a:jH g=true):g.length<4294967296:=by
 simp only[jH,YO,decide_eq_true_eq]at a;omega
theorem lu(s:List UInt8)(h:s=[]∨dp s=true){σ:VS}{K:cZ->VS->Prop}(b:K (.ret (b0 true)) σ):b3 C cn yW [cE s] σ K:=by
 refine cA ?_;rcases h with rfl|h
 ·exact b
 ·have a:s≠[]:=fun c=>by subst c;cases h
  refine a1 (decide_eq_false a) ?_;repeat refine a1 (decide_eq_false a) ?_
  refine nq s (jw h) ?_;rw[h];repeat refine a1 (decide_eq_false a) ?_
  exact b
def pb(b:Bool):Nat:=if b then 7 else 0
theorem AX(t:Ty)(M:List D)(y:hU t M)(K:nS t)(s:di t<4294967296):b3 C cn pR [.agg (M.map V.d)] [] fun O L=>L=[]/\O=.ret (b6 (pb (jl t))):=by
 refine cB ?_;have p:=K;cases K with
 |base z=>
  rename_i I;cases y with
  |mk f b=>
   refine lr _ _ (hU.mk f b) p s ?_;obtain rfl:=f.cT;have H:I=0∨I=1∨I=2∨I=3∨I=4:=om;rcases H with rfl|rfl|rfl|rfl|rfl
   ·rcases b.cT with rfl|⟨w,v,h,rfl⟩
    ·refine cQ Z _ _ eP.nil dc (fun l o a=>absurd a (Yl _)) ?_;refine dn _ _ eP.nil dc List.Pairwise.nil ?_;exact a6 0 ⟨Z,Z⟩
    ·refine cQ Z _ _ (eP.ps .nil) dc (fun l o a=>absurd a (Yl _)) ?_;refine dn _ _ (eP.ps .nil) dc List.Pairwise.nil ?_;exact a6 0 ⟨Z,Z⟩
   ·rcases b.cT with rfl|⟨w,v,h,rfl⟩
    ·refine cQ Z _ _ eP.nil dc (fun l o a=>absurd a (Yl _)) ?_;refine dn _ _ eP.nil dc List.Pairwise.nil ?_;exact a6 0 ⟨Z,Z⟩
    ·refine cQ Z _ _ (eP.ps .nil) dc (fun l o a=>absurd a (Yl _)) ?_;refine dn _ _ (eP.ps .nil) dc List.Pairwise.nil ?_;exact a6 0 ⟨Z,Z⟩
   ·rcases b.cT with rfl|⟨w,v,h,rfl⟩
    ·refine cQ Z _ _ eP.nil dc (fun l o a=>absurd a (Yl _)) ?_;refine dn _ _ eP.nil dc List.Pairwise.nil ?_;exact a6 0 ⟨Z,Z⟩
    ·refine cQ Z _ _ (eP.ps .nil) dc (fun l o a=>absurd a (Yl _)) ?_;refine dn _ _ (eP.ps .nil) dc List.Pairwise.nil ?_;exact a6 0 ⟨Z,Z⟩
   ·rcases b.cT with rfl|⟨w,v,h,rfl⟩
    ·refine cQ Z _ _ eP.nil dc (fun l o a=>absurd a (Yl _)) ?_;refine dn _ _ eP.nil dc List.Pairwise.nil ?_;exact a6 0 ⟨Z,Z⟩
    ·refine cQ Z _ _ (eP.ps .nil) dc (fun l o a=>absurd a (Yl _)) ?_;refine dn _ _ (eP.ps .nil) dc List.Pairwise.nil ?_;exact a6 0 ⟨Z,Z⟩
   ·rcases b.cT with rfl|⟨w,v,h,rfl⟩
    ·refine cQ Z _ _ eP.nil dc (fun l o a=>absurd a (Yl _)) ?_;refine dn _ _ eP.nil dc List.Pairwise.nil ?_;exact a6 0 ⟨Z,Z⟩
    ·refine cQ Z _ _ (eP.ps .nil) dc (fun l o a=>absurd a (Yl _)) ?_;refine dn _ _ (eP.ps .nil) dc List.Pairwise.nil ?_;exact a6 0 ⟨Z,Z⟩
 |list=>
  cases y with
  |mk f b=>
   refine lr _ _ (hU.mk f b) p s ?_;obtain⟨Q,P,J,M,rfl⟩:=f.lY;rcases b.cT with rfl|⟨w,v,h,rfl⟩
   ·refine cQ Z _ _ eP.nil dc (fun l o a=>absurd a (Yl _)) ?_;refine dn _ _ eP.nil dc List.Pairwise.nil ?_;exact a6 0 ⟨Z,Z⟩
   ·refine cQ Z _ _ (eP.ps .nil) dc (fun l o a=>absurd a (Yl _)) ?_;refine dn _ _ (eP.ps .nil) dc List.Pairwise.nil ?_;exact a6 0 ⟨Z,Z⟩
 |O3 G=>
  cases y with
  |mk f b=>
   refine lr _ _ (hU.mk f b) p s ?_;obtain rfl:=f.cT;have F:=(rL s).1;cases b with
   |nil=>
    refine cQ Z _ _ eP.nil dc (fun l o a=>absurd a (Yl _)) ?_;refine dn _ _ eP.nil dc List.Pairwise.nil ?_;exact a6 0 ⟨Z,Z⟩
   |ps b=>
    have i:=b.len;apply aZ<;>intro e
    ·have c:=fq (a:=32) e;rw[i]at c;repeat refine a8 e ?_
     exact a6 0 ⟨Z,by simp[jl,c,pb];rfl⟩
    ·have c:=dM (a:=32) e;rw[i]at c;repeat refine a1 e ?_
     refine cQ Z _ _ (eP.ps b) om (fun l o a A _=>fun z=>vz l (by rw[<-A];exact G.name _ (Yo a)) z) ?_;refine dn _ _ (eP.ps b) om G.Q9 ?_;exact a6 0 ⟨Z,by simp[jl,YN.2 c,pb];rfl⟩
 |V7 G=>
  cases y with
  |mk f b=>
   refine lr _ _ (hU.mk f b) p s ?_;obtain rfl:=f.cT;have F:=(rL s).1;cases b with
   |nil=>
    refine cQ Z _ _ eP.nil dc (fun l o a=>absurd a (Yl _)) ?_;refine dn _ _ eP.nil dc List.Pairwise.nil ?_;exact a6 0 ⟨Z,Z⟩
   |ps b=>
    have i:=b.len;apply aZ<;>intro e
    ·have c:=fq (a:=32) e;rw[i]at c;repeat refine a8 e ?_
     exact a6 0 ⟨Z,by simp[jl,c,pb];rfl⟩
    ·have c:=dM (a:=32) e;rw[i]at c;repeat refine a1 e ?_
     refine cQ Z _ _ (eP.ps b) om (fun l o a A _=>fun z=>vz l (by rw[<-A];exact G.name _ (Yo a)) z) ?_;refine dn _ _ (eP.ps b) om G.Q9 ?_;exact a6 0 ⟨Z,by simp[jl,YN.2 c,pb];rfl⟩
 |func G=>
  cases y with
  |mk f b=>
   refine lr _ _ (hU.mk f b) p s ?_;obtain⟨Q,P,J,M,rfl⟩:=f.lY;have F:=(rL s).1;cases b with
   |nil=>
    refine cQ Z _ _ eP.nil dc (fun l o a=>absurd a (Yl _)) ?_;refine dn _ _ eP.nil dc List.Pairwise.nil ?_;exact a6 0 ⟨Z,Z⟩
   |ps b=>
    have i:=b.len;apply aZ<;>intro e
    ·have c:=fq (a:=32) e;rw[i]at c;repeat refine a8 e ?_
     exact a6 0 ⟨Z,by simp[jl,c,pb];rfl⟩
    ·have c:=dM (a:=32) e;rw[i]at c;repeat refine a1 e ?_
     refine cQ Z _ _ (eP.ps b) om (fun l o a A _=>fun z=>vz l (by rw[<-A];exact G.name _ (Yo a)) z) ?_;refine dn _ _ (eP.ps b) om G.Q9 ?_;exact a6 0 ⟨Z,by simp[jl,YN.2 c,pb];rfl⟩
 |ref E u=>
  cases y with
  |mk f b=>
   refine lr _ _ (hU.mk f b) p s ?_;cases f with
   |nil=>
    rcases b.cT with rfl|⟨w,v,h,rfl⟩
    ·refine lu _ E ?_;refine lm _ (nu u) ?_;rw[u];refine cQ Z _ _ eP.nil dc (fun l o a=>absurd a (Yl _)) ?_;refine dn _ _ eP.nil dc List.Pairwise.nil ?_;exact a6 0 ⟨Z,Z⟩
    ·refine lu _ E ?_;refine lm _ (nu u) ?_;rw[u];refine cQ Z _ _ (eP.ps .nil) dc (fun l o a=>absurd a (Yl _)) ?_;refine dn _ _ (eP.ps .nil) dc List.Pairwise.nil ?_;exact a6 0 ⟨Z,Z⟩
   |ps f N=>
    have x:=f.len;rcases b.cT with rfl|⟨w,v,h,rfl⟩
    ·apply aZ<;>intro e
     ·have n:=fq (a:=8) e;rw[x]at n;repeat refine a8 e ?_
      exact a6 0 ⟨Z,by simp[jl,n,pb];rfl⟩
     ·have n:=dM (a:=8) e;rw[x]at n;repeat refine a1 e ?_
      refine lu _ E ?_;refine lm _ (nu u) ?_;rw[u];refine cQ Z _ _ eP.nil dc (fun l o a=>absurd a (Yl _)) ?_;refine dn _ _ eP.nil dc List.Pairwise.nil ?_;exact a6 0 ⟨Z,by simp[jl,YN.2 n,pb];rfl⟩
    ·apply aZ<;>intro e
     ·have n:=fq (a:=8) e;rw[x]at n;repeat refine a8 e ?_
      exact a6 0 ⟨Z,by simp[jl,n,pb];rfl⟩
     ·have n:=dM (a:=8) e;rw[x]at n;repeat refine a1 e ?_
      refine lu _ E ?_;refine lm _ (nu u) ?_;rw[u];refine cQ Z _ _ (eP.ps .nil) dc (fun l o a=>absurd a (Yl _)) ?_;refine dn _ _ (eP.ps .nil) dc List.Pairwise.nil ?_;exact a6 0 ⟨Z,by simp[jl,YN.2 n,pb];rfl⟩
theorem Cu(t:Ty)(f:List D)(a:hU t f)(b:nS t)(e:di t<4294967296){σ:VS}{K:cZ->VS->Prop}(c:K (.ret (b6 (pb (jl t)))) σ):b3 C cn pR [.agg (f.map V.d)] σ K:=by
 obtain⟨l,n,h,o,i,rfl⟩:=a.eG;exact cN (AX t _ a b e) Z Z c
theorem lZ(c:UInt8){σ:VS}{K:cZ->VS->Prop}(b:K (.ret (b0 (gg c))) σ):b3 C cn s3 [hK c] σ K:=by
 refine cA ?_;apply aZ<;>intro a
 ·exact a8 a (a8 a (dB (by simp only[gg,a,Yz]) b))
 ·exact a1 a (a1 a (dB (by simp only[gg,a,YB]) b))
theorem l0(c:UInt8){σ:VS}{K:cZ->VS->Prop}(b:K (.ret (b0 (eH c))) σ):b3 C cn rq [hK c] σ K:=by
 refine cA ?_;apply aZ<;>intro a
 ·exact a8 a (a8 a (dB (by simp only[eH,a,Yz]) b))
 ·exact a1 a (a1 a (dB (by simp only[eH,a,YB]) b))
theorem iq(c:UInt8){σ:VS}{K:cZ->VS->Prop}(b:K (.ret (b0 (isDigit c))) σ):b3 C cn s0 [hK c] σ K:=by
 refine cA ?_;apply aZ<;>intro a
 ·exact a8 a (a8 a (dB (by simp only[isDigit,a,Yz]) b))
 ·exact a1 a (a1 a (dB (by simp only[isDigit,a,YB]) b))
theorem p0(c:UInt8){σ:VS}{K:cZ->VS->Prop}(f:K (.ret (b0 (isWord c))) σ):b3 C cn uD [hK c] σ K:=by
 refine cA ?_;refine lZ c ?_;apply aZ<;>intro a
 ·exact a8 a (a8 a (dB (by simp only[isWord,a,YC]) f))
 ·refine a1 a (l0 c ?_);refine a1 a ?_;apply aZ<;>intro e
  ·exact a8 e (a8 e (dB (by simp only[isWord,e,YC,YK]) f))
  ·refine a1 e (iq c ?_);refine a1 e ?_;apply aZ<;>intro b
   ·exact a8 b (a8 b (dB (by simp only[isWord,b,YC,YK]) f))
   ·exact a1 b (a1 b (dB (by simp only[isWord,a,e,b,Bool.false_or]) f))
def y7(c:UInt8):Int:=match lf c with
 |some a=>YL a
 |none=> -1
theorem rM(c:UInt8){σ:VS}{K:cZ->VS->Prop}(e:K (.ret (.d (.int .i64 (y7 c)))) σ):b3 C cn vn [hK c] σ K:=by
 refine cA ?_;refine iq c ?_;apply aZ<;>intro h
 ·refine kR ?_ e;have l:=wM h;simp only[y7,lf,h,if_pos];rw[C6 (by simp only[Yn];omega) (by simp only[Yn];omega),wrap64 (by simp only[Yn];omega) (by simp only[Yn];omega)];simp only[Yn];omega
 ·apply aZ<;>intro f
  ·have b:97<=c.toNat:=C3 (a:=97) f;repeat refine a8 f ?_
   apply aZ<;>intro i
   ·have a:c.toNat<=102:=C3 (b:=102) i;refine kR ?_ e;simp only[y7,lf,h,decide_eq_true b,decide_eq_true a,Bool.and_self,if_pos];rw[C6 (n:=YL c.toNat-97) (by simp only[Yn];omega) (by simp only[Yn];omega)];rw[wrap64 (n:=YL c.toNat-97) (by simp only[Yn];omega) (by simp only[Yn];omega)];rw[wrap64 (by simp only[Yn];omega) (by simp only[Yn];omega)];simp only[Yn,YM,if_false];omega
   ·have a:¬c.toNat<=102:=YH (wz (b:=102) i);refine kR ?_ e;simp only[y7,lf,h,decide_eq_false a,YP,YM,if_false]
  ·have b:¬97<=c.toNat:=YH (wz (a:=97) f);repeat refine a1 f ?_
   refine kR ?_ e;simp only[y7,lf,h,decide_eq_false b,YB,YM,if_false]
theorem w5(a:List UInt8)(l:a.length<4294967296){σ:VS}{K:cZ->VS->Prop}(h:K (.ret (b0 (a.all isWord))) σ):b3 C cn s4 [cE a] σ K:=by
 refine cA ?_;refine b5.less (eh:=[(3,b6 0),(0,cE a)]) ⟨Z,Z,tv⟩ ?_;refine b5.iter (fun b:Nat=>[(3,b6 b),(0,cE a)]) (fun _=>σ) (fun b=>a.length-b) (fun b=>b<=a.length/\(a.take b).all isWord=true) ?_ 0 ⟨om,by simp⟩;rintro b ⟨n,e⟩;apply aZ<;>intro f
 ·have f:b<a.length:=fq f;have c:a[b]?=some a[b]:=Ym f;refine bZ Z (b7 a[b] (by rw[cz];exact c) ?_);refine p0 a[b] ?_;apply aZ<;>intro i
  ·refine dB ?_ h
   symm
   rw[List.all_eq_false];exact⟨a[b],Yo f,by simpa using i⟩
  ·refine⟨b+1,⟨om,?_⟩,om,.same ⟨int_eq (cq om),Z,tv⟩ Z,Z,Z⟩;rw[Yy,c];simp only[List.all_append,e,YQ,List.all_cons,List.all_nil,YE,Yz];simpa using i
 ·have f:a.length<=b:=dM f;refine dB ?_ h;rw[Yp om]at e;exact e.symm
def Tv:List (List UInt8):=[[97,110,100],[97,110,121],[97,115],[98,111,111,108],[100,101,112,114,101,99,97,116,101,100],[101,108,115,101],[101,120,112,111,114,116],[102,97,108,115,101],[102,110],[102,111,108,100],[102,114,111,109],[105,102],[105,109,112,111,114,116],[105,110],[105,110,116],[108,101,110,103,116,104],[108,101,116],[108,105,115,116],[109,97,116,99,104],[109,111,100,117,108,101],[110,111,110,101],[110,111,116],[111,114],[116,101,120,116],[116,104,101,110],[116,114,117,101],[116,121,112,101],[117,115,101]]
def et(l:List (List UInt8)):List (List D):=l.map fun a=>[.str a]
def WE:Nat->Bool:=fun a=>YT a 1
theorem nH{σ:VS}{K:cZ->VS->Prop}(a:∀b,K (.ret (.d (.ps b 0 1 28 (et Tv)))) σ):b3 C cn qK [] σ K:=by
 refine b3.body WE (fun _=>Z) ?_;intro b;exact a b
theorem rN(l:List (List UInt8))(s:l.length<4294967296)(o:List UInt8)(b e:Nat){σ:VS}{K:cZ->VS->Prop}(f:K (.ret (b0 (decide (o∈l)))) σ):b3 C cn vm [.d (.ps b 0 1 e (et l)),cE o] σ K:=by
 refine cA ?_;have i:(et l).length=l.length:=by simp[et]
 refine b5.less (eh:=[(5,b6 0),(0,.d (.ps b 0 1 e (et l))),(1,cE o)]) ⟨Z,Z,Z,tv⟩ ?_;refine b5.iter (fun a:Nat=>[(5,b6 a),(0,.d (.ps b 0 1 e (et l))),(1,cE o)]) (fun _=>σ) (fun a=>l.length-a) (fun a=>a<=l.length/\o ∉ l.take a) ?_ 0 ⟨om,by simp⟩;rintro a ⟨u,n⟩;apply aZ<;>intro p
 ·have p:a<l.length:=i▸fq p;have h:l[a]?=some l[a]:=Ym p;refine bZ Z (b7 [.str l[a]] (by rw[cz,et,List.getElem?_map,h];rfl) ?_);apply aZ<;>intro c
  ·have c:l[a]=o:=of_decide_eq_true c;rw[decide_eq_true (c▸Yo p)]at f;exact f
  ·have c:l[a]≠o:=of_decide_eq_false c;refine⟨a+1,⟨om,?_⟩,om,.same ⟨int_eq (cq om),Z,Z,tv⟩ Z,Z,Z⟩;rw[Yy,h];simp only[YQ,List.mem_append,List.mem_singleton,not_or];exact⟨n,fun t=>c t.symm⟩
 ·have p:l.length<=a:=i▸dM p;rw[Yp p]at n;rw[decide_eq_false n]at f;exact f
def Tw:List (List UInt8)->List UInt8
 |[]=>[32]
 |w::a=>32::(w++Tw a)
theorem x0(a b:List UInt8):r3 a b=a.isPrefixOf b:=by
 induction a generalizing b with
 |nil=>cases b<;>rfl
 |cons e a f=>
  cases b with
  |nil=>rfl
  |cons c b=>
   simp only[r3,Yw,f];rw[show(e==c)=YT e.toNat c.toNat from by rw[Bool.eq_iff_iff];simp only[beq_iff_eq,Nat.beq_eq];exact UInt8.toNat_inj.symm];cases YT e.toNat c.toNat<;>rfl
theorem O4{s a b:List UInt8}(f:32 ∉ s)(e:32 ∉ a):(s++[32]).isPrefixOf (a++32::b)=decide (s=a):=by
 induction s generalizing a with
 |nil=>
  cases a with
  |nil=>simp[Yw]
  |cons h a=>
   simp only[YI,Yt,Yw,YE];have:h≠32:=fun c=>e (by simp[c]);simp[this.symm]
 |cons n s i=>
  cases a with
  |nil=>
   simp only[Yt,YI,Yw];have:n≠32:=fun c=>f (by simp[c]);simp[this]
  |cons h a=>
   simp only[Yt,Yw];rw[i (fun l=>f (by simp[l])) (fun l=>e (by simp[l]))];by_cases c:n=h
   ·subst c;simp
   ·simp[c]
theorem O5{p c a:List UInt8}(b:32 ∉ c)(f:∃e,p=32::e):ky p (c++a)=ky p a:=by
 induction c with
 |nil=>rfl
 |cons n c h=>
  obtain⟨e,rfl⟩:=f;have i:n≠32:=fun s=>b (by simp[s]);have l:r3 (32::e) (n::(c++a))=false:=by
   rw[x0,Yw];simp[i.symm]
  simp only[Yt,ky,l];exact h (fun o=>b (by simp[o]))
theorem O6(a:List (List UInt8)):∃b,Tw a=32::b:=by
 cases a with
 |nil=>exact⟨_,rfl⟩
 |cons c a=>exact⟨_,rfl⟩
theorem ME(s:List UInt8)(n:32 ∉ s):∀a:List (List UInt8),(∀b∈a,32 ∉ b)->ky (32::(s++[32])) (Tw a)=decide (s∈a):=by
 intro a;induction a with
 |nil=>
  intro _;have l:r3 (32::(s++[32])) [32]=false:=by
   rw[x0];cases s<;>simp[Yw]
  simp only[Tw,ky,l];simp
 |cons b a e=>
  intro c;obtain⟨p,i⟩:=O6 a;have f:r3 (32::(s++[32])) (32::(b++Tw a))=decide (s=b):=by
   rw[x0,Yw,i,O4 n (c b sm)];simp
  have e:=e (fun b o=>c b (by simp[o]));simp only[Tw,ky,f];by_cases h:s=b
  ·simp[h]
  ·simp only[decide_eq_false h];rw[O5 (c b sm) ⟨_,rfl⟩,e];simp[h]
theorem AY(b:g.all isWord=true):OF g=decide (g∈Tv):=by
 have a:32 ∉ g:=fun c=>by
  have:=List.all_eq_true.1 b 32 c;revert this;decide
 have e:zr=Tw Tv:=rfl;unfold OF;rw[e];exact ME g a Tv dc
theorem fa(s:List UInt8)(t:s.length<4294967296){σ:VS}{K:cZ->VS->Prop}(e:K (.ret (b0 (dp s))) σ):b3 C cn sj [cE s] σ K:=by
 refine cA ?_;apply aZ<;>intro i
 ·repeat refine a8 i ?_
  cases s with
  |nil=>simp at i
  |cons h l=>
   apply aZ<;>intro c
   ·have f:(h::l).length<=32:=C3 c;refine a8 c (bZ Z (b7 h Z ?_));refine a8 c (lZ h ?_);refine a8 c ?_;apply aZ<;>intro b
    ·refine a8 b (w5 (h::l) om ?_);refine a8 b ?_;apply aZ<;>intro a
     ·have o:(h::l).all isWord=true:=a;refine nH (fun p=>?_);repeat refine a8 a ?_
      refine rN Tv dc (h::l) p 28 ?_;rw[<-AY o];repeat refine a8 a ?_
      refine dB ?_ e;have a:(h::l).all isWord=true:=a;simp only[dp,decide_eq_true f,b,a,List.head?_cons,Option.any_some];simp
     ·repeat refine a1 a ?_
      refine dB ?_ e;have a:(h::l).all isWord=false:=a;simp[dp,a]
    ·repeat refine a1 b ?_
     refine dB ?_ e;have b:gg h=false:=b;simp[dp,b]
   ·repeat refine a1 c ?_
    refine dB ?_ e;have f:¬(h::l).length<=32:=YH (wz c);simp only[dp,decide_eq_false f,YP,YB]
 ·repeat refine a1 i ?_
  refine dB ?_ e;have n:s=[]:=Yx (by have:=wz (a:=1) i;omega);subst n;rfl
theorem jD(s:List UInt8)(n:s.length<4294967296){σ:VS}{K:cZ->VS->Prop}(e:K (.ret (b0 (jH s))) σ):b3 C cn sk [cE s] σ K:=by
 refine cA ?_;apply aZ<;>intro f
 ·repeat refine a8 f ?_
  cases s with
  |nil=>simp at f
  |cons h l=>
   apply aZ<;>intro b
   ·have c:(h::l).length<=32:=C3 b;refine a8 b (bZ Z (b7 h Z ?_));refine a8 b (l0 h ?_);refine a8 b ?_;apply aZ<;>intro a
    ·refine a8 a (w5 (h::l) om ?_);refine a8 a ?_;refine dB ?_ e;simp only[jH,decide_eq_true c,a,List.head?_cons,Option.any_some];simp
    ·repeat refine a1 a ?_
     refine dB ?_ e;have a:eH h=false:=a;simp[jH,a]
   ·repeat refine a1 b ?_
    refine dB ?_ e;have c:¬(h::l).length<=32:=YH (wz b);simp only[jH,decide_eq_false c,YP,YB]
 ·repeat refine a1 f ?_
  refine dB ?_ e;have i:s=[]:=Yx (by have:=wz (a:=1) f;omega);subst i;rfl
theorem tZ{p:UInt8->Bool}(l:j<=g.length)(a:(g.take j).all p=true)(e:∀(h:j<g.length),p g[j]=false):dX p g=j:=by
 unfold dX;have i:g=g.take j++g.drop j:=(YS j g).symm;have c:g.takeWhile p=g.take j:=by
  conv=>lhs;rw[i]
  rw[List.takeWhile_append_of_pos (fun f b=>List.all_eq_true.1 a f b)];have:(g.drop j).takeWhile p=[]:=by
   rcases Nat.lt_or_ge j g.length with h|h
   ·rw[List.drop_eq_getElem_cons h,List.takeWhile_cons,e h];rfl
   ·rw[List.drop_of_length_le h];rfl
  rw[this,List.append_nil]
 rw[c,YD];omega
theorem AZ{p:UInt8->Bool}(c:j<g.length)(a:(g.take j).all p=true)(b:p g[j]=true):(g.take (j+1)).all p=true:=by
 rw[Yy,Ym c];simp only[List.all_append,a,YQ,List.all_cons,List.all_nil,YE,Yz,b]
theorem Cv(b:List UInt8)(o:b.length<4294967296){σ:VS}{K:cZ->VS->Prop}(h:K (.ret (b6 (dX isDigit b))) σ):b3 C cn nP [cE b,b0 true] σ K:=by
 refine cA ?_;refine b5.less (eh:=[(5,b6 0),(0,cE b),(1,b0 true)]) ⟨Z,Z,Z,tv⟩ ?_;refine b5.iter (fun c:Nat=>[(5,b6 c),(0,cE b),(1,b0 true)]) (fun _=>σ) (fun c=>b.length-c) (fun c=>c<=b.length/\(b.take c).all isDigit=true) ?_ 0 ⟨om,by simp⟩;rintro c ⟨i,f⟩;apply aZ<;>intro a
 ·have l:c<b.length:=fq a;repeat refine a8 a ?_
  refine bZ Z (b7 b[c] (by rw[cz];exact Ym l) ?_);repeat refine a8 a ?_
  refine iq b[c] ?_;repeat refine a8 a ?_
  apply aZ<;>intro e
  ·repeat first|refine a8 e ?_|refine a8 a ?_
   exact⟨c+1,⟨om,AZ l f e⟩,om,.same ⟨int_eq (cq om),Z,Z,tv⟩ Z,Z,Z⟩
  ·repeat first|refine a1 e ?_|refine a8 a ?_
   refine kR ?_ h;rw[tZ i f (fun _=>e)]
 ·have l:b.length<=c:=dM a;repeat refine a1 a ?_
  refine kR ?_ h;rw[tZ i f (fun n=>om)]
theorem JL{c:UInt8}(a:isDigit c=true):isWord c=true:=by simp[isWord,a]
theorem w6(e:List UInt8)(p:e.length<4294967296){σ:VS}{K:cZ->VS->Prop}(i:K (.ret (b6 (dX isWord e))) σ):b3 C cn nP [cE e,b0 false] σ K:=by
 refine cA ?_;refine b5.less (eh:=[(5,b6 0),(0,cE e),(1,b0 false)]) ⟨Z,Z,Z,tv⟩ ?_;refine b5.iter (fun c:Nat=>[(5,b6 c),(0,cE e),(1,b0 false)]) (fun _=>σ) (fun c=>e.length-c) (fun c=>c<=e.length/\(e.take c).all isWord=true) ?_ 0 ⟨om,by simp⟩;rintro c ⟨n,f⟩;apply aZ<;>intro a
 ·have l:c<e.length:=fq a;repeat refine a8 a ?_
  refine bZ Z (b7 e[c] (by rw[cz];exact Ym l) ?_);repeat refine a8 a ?_
  refine iq e[c] ?_;repeat refine a8 a ?_
  apply aZ<;>intro b
  ·repeat first|refine a8 b ?_|refine a8 a ?_
   exact⟨c+1,⟨om,AZ l f (JL b)⟩,om,.same ⟨int_eq (cq om),Z,Z,tv⟩ Z,Z,Z⟩
  ·repeat first|refine a1 b ?_|refine a8 a ?_
   refine bZ Z (b7 e[c] (by rw[cz];exact Ym l) ?_);repeat first|refine a1 b ?_|refine a8 a ?_
   refine p0 e[c] ?_;repeat first|refine a1 b ?_|refine a8 a ?_
   apply aZ<;>intro h
   ·repeat first|refine a1 b ?_|refine a8 a ?_|refine a8 h ?_
    exact⟨c+1,⟨om,AZ l f h⟩,om,.same ⟨int_eq (cq om),Z,Z,tv⟩ Z,Z,Z⟩
   ·repeat first|refine a1 b ?_|refine a8 a ?_|refine a1 h ?_
    refine kR ?_ i;rw[tZ n f (fun _=>h)]
 ·have l:e.length<=c:=dM a;repeat refine a1 a ?_
  refine kR ?_ i;rw[tZ n f (fun o=>om)]
theorem kU(a b:List UInt8)(c:cK a b=true){σ:VS}{K:cZ->VS->Prop}(e:K (.ret (b6 0)) σ):b3 C cn pj [cE a,cE b] σ K:=by
 have f:a≠b:=by rintro rfl;rw[EJ]at c;cases c
 have i:cK b a=false:=by
  cases h:cK b a with
  |false=>rfl
  |true=>have:=th _ _ _ c h;rw[EJ]at this;cases this
 refine cA ?_;refine a1 (decide_eq_false f) ?_;refine a1 (by rw[c];rfl) ?_;exact e
theorem l1(c:List UInt8)(e:c=[]∨dp c=true){σ:VS}{K:cZ->VS->Prop}(b:K (.ret (b0 true)) σ):b3 C cn sl [cE c] σ K:=by
 refine cA ?_;by_cases a:c=[]
 ·subst a;exact b
 ·have e:=e.resolve_left a;repeat refine a1 (decide_eq_false a) ?_
  refine fa c (jw e) ?_;rw[e];repeat refine a1 (decide_eq_false a) ?_
  exact b
theorem Hm(t:Ty)(j:List D)(P:hU t j)(ad:nS t)(U:di t<4294967296):b3 C cn ll [.agg (j.map V.d)] [] fun ai ac=>ac=[]/\ai=.ret (b6 (pb (jl t))):=by
 refine cB ?_;cases ad with
 |base aj=>
  rename_i aa;cases P with
  |mk G i=>
   obtain rfl:=G.cT;have r:aa=0∨aa=1∨aa=2∨aa=3∨aa=4:=om;rcases r with rfl|rfl|rfl|rfl|rfl
   ·rcases i.cT with rfl|⟨s,p,f,rfl⟩
    ·refine b5.loop ?_;refine b5.loop ?_;refine b5.loop ?_;refine a6 0 ⟨Z,Z⟩
    ·refine b5.loop ?_;refine b5.loop ?_;refine b5.loop ?_;refine a6 0 ⟨Z,Z⟩
   ·rcases i.cT with rfl|⟨s,p,f,rfl⟩
    ·refine b5.loop ?_;refine b5.loop ?_;refine b5.loop ?_;refine a6 0 ⟨Z,Z⟩
    ·refine b5.loop ?_;refine b5.loop ?_;refine b5.loop ?_;refine a6 0 ⟨Z,Z⟩
   ·rcases i.cT with rfl|⟨s,p,f,rfl⟩
    ·refine b5.loop ?_;refine b5.loop ?_;refine b5.loop ?_;refine a6 0 ⟨Z,Z⟩
    ·refine b5.loop ?_;refine b5.loop ?_;refine b5.loop ?_;refine a6 0 ⟨Z,Z⟩
   ·rcases i.cT with rfl|⟨s,p,f,rfl⟩
    ·refine b5.loop ?_;refine b5.loop ?_;refine b5.loop ?_;refine a6 0 ⟨Z,Z⟩
    ·refine b5.loop ?_;refine b5.loop ?_;refine b5.loop ?_;refine a6 0 ⟨Z,Z⟩
   ·rcases i.cT with rfl|⟨s,p,f,rfl⟩
    ·refine b5.loop ?_;refine b5.loop ?_;refine b5.loop ?_;refine a6 0 ⟨Z,Z⟩
    ·refine b5.loop ?_;refine b5.loop ?_;refine b5.loop ?_;refine a6 0 ⟨Z,Z⟩
 |list=>
  cases P with
  |mk G i=>
   obtain⟨ab,q,I,j,rfl⟩:=G.lY;rcases i.cT with rfl|⟨s,p,f,rfl⟩
   ·refine b5.loop ?_;refine b5.loop ?_;refine b5.loop ?_;refine a6 0 ⟨Z,Z⟩
   ·refine b5.loop ?_;refine b5.loop ?_;refine b5.loop ?_;refine a6 0 ⟨Z,Z⟩
 |O3 R=>
  rename_i a;have N:=R.oa rfl;cases P with
  |mk G i=>
   obtain rfl:=G.cT;cases i with
   |nil=>
    refine b5.loop ?_;refine b5.loop ?_;refine b5.loop ?_;refine a6 0 ⟨Z,Z⟩
   |ps i=>
    rename_i s p f h;have l:=i.len;have d:=(rL U).1;refine b5.less (eh:=[(1,.bp 0 0),(5,b6 0)]) ⟨Z,Z,tv⟩ ?_;refine b5.iter (fun b:Nat=>[(1,.bp 0 0),(5,b6 b)]) (fun _=>[.box (rK 6 [] [] .cC (.ps s p 7 f h))]) (fun b=>a.length-b) (fun b=>b<=a.length) ?_ 0 (Yr _);intro b z;apply aZ<;>intro e
    ·have c:b<a.length:=l▸fq e;obtain⟨F,v,o,x,E⟩:=i.get c;refine bZ Z ?_;refine b7 (fe F) (by rw[cz];exact v) ?_;have S:=N _ (Yo c);rw[x]at S;repeat refine e4 ?_
     refine⟨b+1,c,by show a.length-(b+1)<a.length-b;omega,.same ⟨rfl,int_eq (cq om),tv⟩ rfl,rfl,rfl⟩
    ·have c:a.length<=b:=l▸dM e;clear e c z;apply aZ<;>intro e
     ·have n:32<a.length:=l▸fq (a:=32) e;repeat refine e4 ?_
      refine a6 0 ⟨Z,by rw[jl,decide_eq_true n];rfl⟩
     ·have n:a.length<=32:=l▸dM (a:=32) e;repeat refine e4 ?_
      have y:jl (.mk 6 [] [] [] a)=false:=by rw[jl,decide_eq_false om];rfl
      rw[y];refine b5.less (eh:=[(1,.bp 0 0),(6,b6 0)]) ⟨Z,Z,tv⟩ ?_;refine b5.iter (fun b:Nat=>[(1,.bp 0 0),(6,b6 b)]) (fun _=>[.box (rK 6 [] [] .cC (.ps s p 7 f h))]) (fun b=>a.length-b) (fun b=>b<=a.length) ?_ 0 (Yr _);intro b z;apply aZ<;>intro e
      ·have c:b<a.length:=l▸fq e;obtain⟨F,v,o,x,E⟩:=i.get c;have w:=R.name _ (Yo c);rw[o]at w;refine bZ Z ?_;refine b7 (fe F) (by rw[cz];exact v) ?_;refine fa F.n (jw w) ?_;rw[w];refine⟨b+1,c,by show a.length-(b+1)<a.length-b;omega,.same ⟨rfl,int_eq (cq om),tv⟩ rfl,rfl,rfl⟩
      ·clear e z;refine b5.less (eh:=[(1,.bp 0 0),(7,b6 1)]) ⟨Z,Z,tv⟩ ?_;refine b5.iter (fun b:Nat=>[(1,.bp 0 0),(7,b6 b)]) (fun _=>[.box (rK 6 [] [] .cC (.ps s p 7 f h))]) (fun b=>a.length-b) (fun b=>1<=b) ?_ 1 (Yq _);intro b z;apply aZ<;>intro e
       ·have c:b<a.length:=l▸fq e;have B:b-1<a.length:=om;obtain⟨F,v,o,x,E⟩:=i.get B;obtain⟨X,T,K,g,Y⟩:=i.get c;have A:=R.Q9.lU (Ym B) (Ym c) om;rw[o,K]at A;have J:nth h (b-1)=some (fe F):=by rw[cz];exact v
        have H:nth h b=some (fe X):=by rw[cz];exact T
        have M:=ow (a:=b) om om;repeat first|refine bZ M ?_|refine bZ rfl ?_|refine b7 _ J ?_|refine b7 _ H ?_
        repeat refine b4 ?_
        refine kU F.n X.n A ?_;repeat refine b4 ?_
        refine⟨b+1,by show 1<=b+1;omega,by show a.length-(b+1)<a.length-b;omega,.same ⟨rfl,int_eq (cq om),tv⟩ rfl,rfl,rfl⟩
       ·refine a6 0 ⟨Z,Z⟩
 |V7 R=>
  rename_i a;have N:=R.oa rfl;cases P with
  |mk G i=>
   obtain rfl:=G.cT;cases i with
   |nil=>
    refine b5.loop ?_;refine b5.loop ?_;refine b5.loop ?_;refine a6 0 ⟨Z,Z⟩
   |ps i=>
    rename_i s p f h;have l:=i.len;have d:=(rL U).1;refine b5.less (eh:=[(1,.bp 0 0),(5,b6 0)]) ⟨Z,Z,tv⟩ ?_;refine b5.iter (fun b:Nat=>[(1,.bp 0 0),(5,b6 b)]) (fun _=>[.box (rK 7 [] [] .cC (.ps s p 7 f h))]) (fun b=>a.length-b) (fun b=>b<=a.length) ?_ 0 (Yr _);intro b z;apply aZ<;>intro e
    ·have c:b<a.length:=l▸fq e;obtain⟨F,v,o,x,E⟩:=i.get c;refine bZ Z ?_;refine b7 (fe F) (by rw[cz];exact v) ?_;have S:=N _ (Yo c);rw[x]at S;repeat refine e4 ?_
     refine⟨b+1,c,by show a.length-(b+1)<a.length-b;omega,.same ⟨rfl,int_eq (cq om),tv⟩ rfl,rfl,rfl⟩
    ·have c:a.length<=b:=l▸dM e;clear e c z;apply aZ<;>intro e
     ·have n:32<a.length:=l▸fq (a:=32) e;repeat refine e4 ?_
      refine a6 0 ⟨Z,by rw[jl,decide_eq_true n];rfl⟩
     ·have n:a.length<=32:=l▸dM (a:=32) e;repeat refine e4 ?_
      have y:jl (.mk 7 [] [] [] a)=false:=by rw[jl,decide_eq_false om];rfl
      rw[y];refine b5.less (eh:=[(1,.bp 0 0),(6,b6 0)]) ⟨Z,Z,tv⟩ ?_;refine b5.iter (fun b:Nat=>[(1,.bp 0 0),(6,b6 b)]) (fun _=>[.box (rK 7 [] [] .cC (.ps s p 7 f h))]) (fun b=>a.length-b) (fun b=>b<=a.length) ?_ 0 (Yr _);intro b z;apply aZ<;>intro e
      ·have c:b<a.length:=l▸fq e;obtain⟨F,v,o,x,E⟩:=i.get c;have w:=R.name _ (Yo c);rw[o]at w;refine bZ Z ?_;refine b7 (fe F) (by rw[cz];exact v) ?_;refine fa F.n (jw w) ?_;rw[w];refine⟨b+1,c,by show a.length-(b+1)<a.length-b;omega,.same ⟨rfl,int_eq (cq om),tv⟩ rfl,rfl,rfl⟩
      ·clear e z;refine b5.less (eh:=[(1,.bp 0 0),(7,b6 1)]) ⟨Z,Z,tv⟩ ?_;refine b5.iter (fun b:Nat=>[(1,.bp 0 0),(7,b6 b)]) (fun _=>[.box (rK 7 [] [] .cC (.ps s p 7 f h))]) (fun b=>a.length-b) (fun b=>1<=b) ?_ 1 (Yq _);intro b z;apply aZ<;>intro e
       ·have c:b<a.length:=l▸fq e;have B:b-1<a.length:=om;obtain⟨F,v,o,x,E⟩:=i.get B;obtain⟨X,T,K,g,Y⟩:=i.get c;have A:=R.Q9.lU (Ym B) (Ym c) om;rw[o,K]at A;have J:nth h (b-1)=some (fe F):=by rw[cz];exact v
        have H:nth h b=some (fe X):=by rw[cz];exact T
        have M:=ow (a:=b) om om;repeat first|refine bZ M ?_|refine bZ rfl ?_|refine b7 _ J ?_|refine b7 _ H ?_
        repeat refine b4 ?_
        refine kU F.n X.n A ?_;repeat refine b4 ?_
        refine⟨b+1,by show 1<=b+1;omega,by show a.length-(b+1)<a.length-b;omega,.same ⟨rfl,int_eq (cq om),tv⟩ rfl,rfl,rfl⟩
       ·refine a6 0 ⟨Z,Z⟩
 |func R=>
  rename_i ae a;cases P with
  |mk G i=>
   obtain⟨ab,q,I,j,rfl⟩:=G.lY;cases i with
   |nil=>
    refine b5.loop ?_;refine b5.loop ?_;refine b5.loop ?_;refine a6 0 ⟨Z,Z⟩
   |ps i=>
    rename_i s p f h;have l:=i.len;have d:=(rL U).1;refine b5.less (eh:=[(1,.bp 0 0),(5,b6 0)]) ⟨Z,Z,tv⟩ ?_;refine b5.iter (fun b:Nat=>[(1,.bp 0 0),(5,b6 b)]) (fun _=>[.box (rK 8 [] [] (.ps ab q 5 I [j]) (.ps s p 7 f h))]) (fun b=>a.length-b) (fun b=>b<=a.length) ?_ 0 (Yr _);intro b z;apply aZ<;>intro e
    ·have c:b<a.length:=l▸fq e;obtain⟨F,v,o,x,E⟩:=i.get c;refine bZ Z ?_;refine b7 (fe F) (by rw[cz];exact v) ?_;apply aZ<;>intro al
     ·repeat refine e4 ?_
      refine⟨b+1,c,by show a.length-(b+1)<a.length-b;omega,.same ⟨rfl,int_eq (cq om),tv⟩ rfl,rfl,rfl⟩
     ·repeat refine e4 ?_
      refine⟨b+1,c,by show a.length-(b+1)<a.length-b;omega,.same ⟨rfl,int_eq (cq om),tv⟩ rfl,rfl,rfl⟩
    ·have c:a.length<=b:=l▸dM e;clear e c z;apply aZ<;>intro e
     ·have n:32<a.length:=l▸fq (a:=32) e;repeat refine e4 ?_
      refine a6 0 ⟨Z,by rw[jl,decide_eq_true n];rfl⟩
     ·have n:a.length<=32:=l▸dM (a:=32) e;repeat refine e4 ?_
      have y:jl (.mk 8 [] [] [ae] a)=false:=by rw[jl,decide_eq_false om];rfl
      rw[y];refine b5.less (eh:=[(1,.bp 0 0),(6,b6 0)]) ⟨Z,Z,tv⟩ ?_;refine b5.iter (fun b:Nat=>[(1,.bp 0 0),(6,b6 b)]) (fun _=>[.box (rK 8 [] [] (.ps ab q 5 I [j]) (.ps s p 7 f h))]) (fun b=>a.length-b) (fun b=>b<=a.length) ?_ 0 (Yr _);intro b z;apply aZ<;>intro e
      ·have c:b<a.length:=l▸fq e;obtain⟨F,v,o,x,E⟩:=i.get c;have w:=R.name _ (Yo c);rw[o]at w;refine bZ Z ?_;refine b7 (fe F) (by rw[cz];exact v) ?_;refine fa F.n (jw w) ?_;rw[w];refine⟨b+1,c,by show a.length-(b+1)<a.length-b;omega,.same ⟨rfl,int_eq (cq om),tv⟩ rfl,rfl,rfl⟩
      ·clear e z;refine b5.less (eh:=[(1,.bp 0 0),(7,b6 1)]) ⟨Z,Z,tv⟩ ?_;refine b5.iter (fun b:Nat=>[(1,.bp 0 0),(7,b6 b)]) (fun _=>[.box (rK 8 [] [] (.ps ab q 5 I [j]) (.ps s p 7 f h))]) (fun b=>a.length-b) (fun b=>1<=b) ?_ 1 (Yq _);intro b z;apply aZ<;>intro e
       ·have c:b<a.length:=l▸fq e;have B:b-1<a.length:=om;obtain⟨F,v,o,x,E⟩:=i.get B;obtain⟨X,T,K,g,Y⟩:=i.get c;have A:=R.Q9.lU (Ym B) (Ym c) om;rw[o,K]at A;have J:nth h (b-1)=some (fe F):=by rw[cz];exact v
        have H:nth h b=some (fe X):=by rw[cz];exact T
        have M:=ow (a:=b) om om;repeat first|refine bZ M ?_|refine bZ rfl ?_|refine b7 _ J ?_|refine b7 _ H ?_
        repeat refine b4 ?_
        refine kU F.n X.n A ?_;repeat refine b4 ?_
        refine⟨b+1,by show 1<=b+1;omega,by show a.length-(b+1)<a.length-b;omega,.same ⟨rfl,int_eq (cq om),tv⟩ rfl,rfl,rfl⟩
       ·refine a6 0 ⟨Z,Z⟩
 |ref W L=>
  rename_i m k u;have ag:=(rL U).2;cases P with
  |mk G i=>
   cases G with
   |nil=>
    rcases i.cT with rfl|⟨s,p,f,rfl⟩
    ·refine b5.loop ?_;refine l1 m W ?_;refine jD k (nu L) ?_;rw[L];refine b5.loop ?_;refine b5.loop ?_;refine a6 0 ⟨Z,Z⟩
    ·refine b5.loop ?_;refine l1 m W ?_;refine jD k (nu L) ?_;rw[L];refine b5.loop ?_;refine b5.loop ?_;refine a6 0 ⟨Z,Z⟩
   |ps R af=>
    rename_i ab q I ah;have O:=R.len;rcases i.cT with rfl|⟨s,p,f,rfl⟩
    ·refine b5.loop ?_;apply aZ<;>intro e
     ·have n:8<u.length:=O▸fq (a:=8) e;repeat refine e4 ?_
      refine a6 0 ⟨Z,by rw[jl,decide_eq_true n,YK];rfl⟩
     ·have n:u.length<=8:=O▸dM (a:=8) e;have y:jl (.mk 10 m k u [])=false:=by rw[jl,decide_eq_false (p:=8<u.length) om];rfl
      rw[y];repeat refine e4 ?_
      refine l1 m W ?_;refine jD k (nu L) ?_;rw[L];refine b5.loop ?_;refine b5.loop ?_;refine a6 0 ⟨Z,Z⟩
    ·refine b5.loop ?_;apply aZ<;>intro e
     ·have n:8<u.length:=O▸fq (a:=8) e;repeat refine e4 ?_
      refine a6 0 ⟨Z,by rw[jl,decide_eq_true n,YK];rfl⟩
     ·have n:u.length<=8:=O▸dM (a:=8) e;have y:jl (.mk 10 m k u [])=false:=by rw[jl,decide_eq_false (p:=8<u.length) om];rfl
      rw[y];repeat refine e4 ?_
      refine l1 m W ?_;refine jD k (nu L) ?_;rw[L];refine b5.loop ?_;refine b5.loop ?_;refine a6 0 ⟨Z,Z⟩
inductive j4:Ty->Prop
 |mk {t:Ty} (h:nS t) (hp:∀p∈eL t,j4 p):j4 t
theorem tp{l:List Ty}:nR l=false↔∀b∈l,qf b=false:=by
 induction l with
 |nil=>simp[nR]
 |cons c l a=>simp[nR,a]
theorem A0{l:List Ty}{t:Ty}(c:t∈l)(a:qf t=true):nR l=true:=by
 cases b:nR l with
 |true=>rfl
 |false=>rw[tp.1 b t c]at a;cases a
def Ra(e c:List V)(i f:jT)(b:Bool)(h:cZ)(a:VS):Prop:=match b with
 |true=>a=jK [b6 7] e c f/\h=.ret (b0 false)
 |false=>a=jK [b6 0] e c i/\h=.ret (b0 true)
theorem O7(f e:List V)(w x:jT)(b:gC 0 f=true)(c:gC 0 e=true)(z:gY 7 (.loop w)=true)(u:gY 7 (.loop x)=true)(S:∀o H,gC 0 o=true->gC 0 H=true->mZ 9 (jK [b6 0] f e w++[.box o,.box H]) 9=true) 
  (g:∀(o:List V) (t:Ty) (p:List D) (Y:cZ->VS->Prop),hU t p->nS t->di t<4294967296->(jl t=false->Y (.ret (b0 true)) (jK [b6 0] f e w++[.box o,.box (p.map V.d)]))->(jl t=true->Y (.ret (b0 false)) (jK [b6 7] f e x++[.box o,.box (p.map V.d)]))->
   h7 C cn 4 [.agg (p.map V.d)] (jK [b6 0] f e w++[.box o]) Y) (n:Nat)
  (m:∀(t:Ty) (p:List D),di t<=n->hU t p->j4 t->b3 C cn e7 [.agg (p.map V.d),.bp 5 0,.bp 6 0] (jK [b6 0] f e w) (Ra f e w x (qf t)))
  (t:Ty) (p:List D) (O:di t<=n+1) (ah:n+1<4294967296) (K:hU t p) (L:j4 t):
  b3 C cn e7 [.agg (p.map V.d),.bp 5 0,.bp 6 0] (jK [b6 0] f e w) (Ra f e w x (qf t)):=by
 obtain⟨T,U,s,N,P,rfl⟩:=K.eG;have ac:=gl t;cases L with
 |mk L F=>
 refine cB ?_;refine g (rK T U s N P) t _ _ K L om (fun l=>?_) (fun l=>?_)
 ·refine vy t _ K om (fun p W=>?_);rw[vw,l,Bool.false_or];have M:cL (eL t)<=n:=om;generalize eL t=a at W M F;have r:=fu a;cases W with
  |nil=>
   refine b5.loop ?_;refine cR.drop 7 ?_ ?_ ?_ ?_
   ·exact Z
   ·exact lX Z b c z
   ·exact Z
   exact cR.now Z ⟨Z,Z⟩
  |ps A=>
   rename_i ad aa G I;have R:=A.len;refine b5.less (eh:=[(12,.d (.ps ad aa 5 G I)),(13,b6 a.length),(14,b6 0),(2,.bp 6 0)]) ⟨Z,int_eq (by rw[R]),rfl,rfl,tv⟩ ?_;refine b5.iter (fun i:Nat=>[(12,.d (.ps ad aa 5 G I)),(13,b6 a.length),(14,b6 i),(2,.bp 6 0)]) (fun i=>jK [b6 0] f e w++[.box (rK T U s N P),.box (rK T U s N P)]) (fun i=>a.length-i) (fun i=>i<=a.length/\∀v (B:v<a.length),v<i->qf a[v]=false) ?_ 0 ⟨Yr _,fun v _ A=>absurd A (Yl _)⟩;rintro i ⟨ag,E⟩;apply aZ<;>intro X
   ·have h:i<a.length:=fq X;obtain⟨p,j,J⟩:=A.get h;refine bZ Z ?_;obtain⟨k,d,Q,q,f2,rfl⟩:=J.eG;refine b7 _ (by rw[cz];exact j) ?_;have af:=gG (Yo h);refine(m a[i] _ om J (F _ (Yo h))).pre [.box (rK T U s N P),.box (rK T U s N P),.box (rK k d Q q f2)] (lX Z b c z) Z (fun ai ae A=>?_);cases y:qf a[i]with
    |false=>
     rw[y]at A;obtain⟨rfl,rfl⟩:=A;refine⟨Z,lX Z b c z,Z,?_⟩;refine⟨i+1,⟨h,fun v B ab=>?_⟩,by show a.length-(i+1)<a.length-i;omega,.drop 9 ⟨rfl,rfl,int_eq (cq om),rfl,tv⟩ rfl rfl ?_ rfl rfl rfl rfl,rfl,rfl⟩
     ·rcases Nat.lt_or_ge v i with h1|h1
      ·exact E v B h1
      ·obtain rfl:v=i:=om;exact y
     ·exact S _ _ Z Z
    |true=>
     rw[y]at A;obtain⟨rfl,rfl⟩:=A;refine⟨Z,lX Z b c u,Z,?_⟩;refine cR.drop 7 ?_ ?_ ?_ ?_
     ·exact Z
     ·exact lX Z b c u
     ·exact Z
     refine cR.now Z ?_;rw[A0 (Yo h) y];exact⟨Z,Z⟩
   ·have h:a.length<=i:=dM X;refine cR.drop 7 ?_ ?_ ?_ ?_
    ·exact Z
    ·exact lX Z b c z
    ·exact Z
    refine cR.now Z ?_;rw[tp.2 (fun t O=>by
     obtain⟨v,B,rfl⟩:=List.mem_iff_getElem.1 O;exact E v B om)]
    exact⟨Z,Z⟩
 ·refine cR.drop 7 ?_ ?_ ?_ ?_
  ·exact Z
  ·exact lX Z b c u
  ·exact Z
  refine cR.now Z ?_;rw[vw,l,YC];exact⟨Z,Z⟩
theorem Rb(b a:List V)(l h:jT)(p:gC 0 b=true)(s:gC 0 a=true)(y:gY 7 (.loop l)=true)(t:gY 7 (.loop h)=true)(o:∀e i,gC 0 e=true->gC 0 i=true->mZ 9 (jK [b6 0] b a l++[.box e,.box i]) 9=true) 
  (A:∀(e:List V) (c:Ty) (f:List D) (v:cZ->VS->Prop),hU c f->nS c->di c<4294967296->(jl c=false->v (.ret (b0 true)) (jK [b6 0] b a l++[.box e,.box (f.map V.d)]))->(jl c=true->v (.ret (b0 false)) (jK [b6 7] b a h++[.box e,.box (f.map V.d)]))->
   h7 C cn 4 [.agg (f.map V.d)] (jK [b6 0] b a l++[.box e]) v):∀(n:Nat) (c:Ty) (f:List D),n<4294967296->di c<=n->hU c f->j4 c->b3 C cn e7 [.agg (f.map V.d),.bp 5 0,.bp 6 0] (jK [b6 0] b a l) (Ra b a l h (qf c)):=by
 intro n;induction n with
 |zero=>intro c f _ G;have:=kq c;omega
 |succ n F=>intro c f E G u z;exact O7 b a l h p s y t o A n (fun c f x w B=>F c f om x w B) c f G E u z
def Lb(a:jT):jT:={a with state:=.done,pending:=some .ret}
theorem O8(b a:List V)(e:jT)(h:gC 0 b=true)(i:gC 0 a=true)(p:gY 7 (.loop e)=true)(l:gY 9 (.loop e)=true) 
  (w:∀(c:List V) (t:Ty) (f:List D) (v:cZ->VS->Prop),hU t f->nS t->di t<4294967296->(jl t=false->v (.ret (b0 true)) (jK [b6 0] b a e++[.box c,.box (f.map V.d)]))->(jl t=true->v (.ret (b0 false)) (jK [b6 7] b a (Lb e)++[.box c,.box (f.map V.d)]))->
   h7 C cn 4 [.agg (f.map V.d)] (jK [b6 0] b a e++[.box c]) v) (n:Nat) (t:Ty) (f:List D) (y:n<4294967296) (x:di t<=n) (s:hU t f) (u:j4 t):b3 C cn e7 [.agg (f.map V.d),.bp 5 0,.bp 6 0] (jK [b6 0] b a e) (Ra b a e (Lb e) (qf t)):=
 Rb b a e (Lb e) h i p p (fun c o A z=>by
  simp only[jK,Yt,YI,mZ,gY,hE 9 b h,hE 9 a i,hE 9 c A,hE 9 o z,Yz,YE]at l⊢;rw[l];rfl) w n t f y x s u
def pk(t:Ty):Bool:=decide (4096<di t)||decide (32<mQ t)||qf t
theorem y8(t:Ty)(x:List D)(a:hU t x)(o:j4 t)(A:di t<4294967295):b3 C cn oV [.agg (x.map V.d)] [] fun E i=>i=[]/\E=.ret (b6 (pb (pk t))):=by
 obtain⟨w,z,l,n,v,rfl⟩:=a.eG;refine cB ?_;refine Dg t _ a om ?_;apply aZ<;>intro c
 ·have h:=fq (a:=4096) c;repeat refine a8 c ?_
  refine a6 0 ⟨Z,?_⟩;rw[pk,decide_eq_true h,YC,YC];rfl
 ·have h:=dM (a:=4096) c;repeat refine a1 c ?_
  refine JJ _ t _ A (Yq _) a ?_;repeat refine a1 c ?_
  apply aZ<;>intro e
  ·have f:=fq (a:=32) e;repeat refine a8 e ?_
   refine a6 0 ⟨Z,?_⟩;rw[pk,decide_eq_true f,YK,YC];rfl
  ·have f:=dM (a:=32) e;repeat refine a1 e ?_
   have p:pk t=qf t:=by rw[pk,decide_eq_false om,decide_eq_false om];rfl
   rw[p];refine cA ?_;refine cA ?_;refine(O8 (rK w z l n v) (rK w z l n v) _ Z Z ?_ ?_ (fun F t x G a o y u B=>?_) _ t _ om (Yq _) a o).mono (fun E i s=>?_)
   ·exact Z
   ·exact Z
   ·obtain⟨w,z,l,n,v,rfl⟩:=a.eG;refine h7.intro ?_;refine Cu t _ a o y ?_;cases b:jl t with
    |false=>exact u b
    |true=>exact B b
   ·cases b:qf t with
    |false=>
     rw[b]at s;obtain⟨rfl,rfl⟩:=s;exact a6 0 ⟨Z,Z⟩
    |true=>
     rw[b]at s;obtain⟨rfl,rfl⟩:=s;exact a6 0 ⟨Z,Z⟩
theorem A1(t:Ty)(f:List D)(a:hU t f)(b:j4 t)(e:di t<4294967295){σ:VS}{K:cZ->VS->Prop}(c:K (.ret (b6 (pb (pk t)))) σ):b3 C cn oV [.agg (f.map V.d)] σ K:=by
 obtain⟨l,n,h,o,i,rfl⟩:=a.eG;exact cN (y8 t _ a b e) Z Z c
end Go.Proofs.YthlkhjchcjflkaaGreatDoor
