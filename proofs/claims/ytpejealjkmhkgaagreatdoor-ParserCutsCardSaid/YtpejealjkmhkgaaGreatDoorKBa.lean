/- Part of the proof. -/
import Derived.Test.YtpejealjkmhkgaaGreatDoorKAz
set_option linter.all false
set_option maxHeartbeats 16000000
set_option maxRecDepth 100000
open List renaming getElem?_eq_getElem->YL,append_assoc->YO,cons_append->YQ,take_append_drop->YR,drop_eq_getElem_cons->YS,nil_append->YT,length_append->YU,take_add_one->YW,getElem?_set_ne->YX,getElem?_append_right->YY,nodup_append->YZ,take_of_length_le->Y0,drop_of_length_le->Y1,set_append_right->Y2,map_append->Y3,pairwise_append->Y4,mem_map_of_mem->Y5,getElem?_append_left->Y7,getElem?_eq_none->Y9,getElem?_of_mem->Za,set_cons_zero->Zb
open Int renaming ofNat->YM,ofNat_eq_natCast->YP
open Nat renaming zero_add->YN,le_refl->YV,zero_le->Y6,sub_self->Y8
namespace Go.VM
open Go.AM
section
variable{α:Type} {key:α->List UInt8}
theorem EE(a b h:List α)(d c:α)(g i:Nat)(f:g=a.length)(e:i=a.length+1+b.length):((a++d::(b++c::h)).set g c).set i d=a++c::(b++d::h):=by
 subst f;subst e;rw[Y2 _ _ (YV _),Y8,Zb,Y2 _ _ om];rw[show a.length+1+b.length-a.length=b.length+1 from om,List.set_cons_succ,Y2 _ _ (YV _),Y8,Zb]
theorem GJ(a d g:List α)(c b:α)(f h:Nat)(i:f=a.length)(e:h=a.length+1+d.length):((a++c::(d++b::g)).set h c).set f b=a++b::(d++c::g):=by
 rw[List.set_comm _ _ om,EE a d g c b f h i e]
theorem qQ(c e:List α)(b:α)(d:Nat)(a:d=c.length):(c++b::e)[d]?=some b:=by
 subst a;rw[YY (YV _),Y8,List.getElem?_cons_zero]
theorem wH(b c f:List α)(e a:α)(d:Nat)(g:d=b.length+1+c.length):(b++e::(c++a::f))[d]?=some a:=by
 have:=qQ (b++e::c) f a d (by simp;omega);simpa using this
theorem Jh(l:List α)(n:Nat)(b:n<=l.length):∃a c,l=a++c/\a.length=n:=
 ⟨l.take n,l.drop n,(YR n l).symm,by simp[b]⟩
theorem Pl(l:List α)(d:0<l.length):∃a b,l=a++[b]:=by
 rcases List.eq_nil_or_concat l with c|⟨a,b,c⟩
 ·subst c;simp at d
 ·exact⟨a,b,by simpa using c⟩
theorem CW(l:List α)(c:0<l.length):∃b a,l=b::a:=by
 cases l with
 |nil=>simp at c
 |cons b a=>exact⟨b,a,rfl⟩
theorem GK{b a:List α}{i:α}(d:k8 key (b++a))(h:∀f∈b,cB (key f) (key i)=true)(g:∀f∈a,cB (key i) (key f)=true):k8 key (b++i::a):=by
 unfold k8 at d⊢;rw[Y4]at d⊢;refine⟨d.1,List.pairwise_cons.2 ⟨g,d.2.1⟩,fun j e k c=>?_⟩;rcases List.mem_cons.1 c with rfl|c
 ·exact h j e
 ·exact d.2.2 j e k c
theorem Pm{f:List α}{c g:α}(e:k8 key (f++[c]))(b:cB (key c) (key g)=true):∀d∈f++[c],cB (key d) (key g)=true:=by
 intro d a;unfold k8 at e;rw[Y4]at e;rcases List.mem_append.1 a with a|a
 ·exact u9 _ _ _ (e.2.2 d a c sm) b
 ·simp at a;subst a;exact b
theorem GL(b a:List α)(c:α):(b++c::a).Perm ((b++a)++[c]):=
 List.perm_middle.trans (List.perm_append_singleton c (b++a)).symm
theorem lS(l:List α):(cE key l).length=l.length:=(dG l).length_eq
theorem lT{l b:List α}(d:(l.map key).Nodup)(a:b.Perm l)(c:k8 key b):cE key l=b:=(yt d a c).symm
theorem va{l b:List α}(a:b.Perm l)(c:(l.map key).Nodup):(b.map key).Nodup:=((a.map key).nodup_iff).2 c
theorem KV{b:List α}{l:α}(m:k8 key b)(e:Nat)(n:e<=b.length)(f:∀i,0<e->b[e-1]?=some i->cB (key i) (key l)=true):∀j∈b.take e,cB (key j) (key l)=true:=by
 intro j h;obtain⟨o,a⟩:=Za h;rw[List.getElem?_take]at a;split at a
 ·rename_i k;have c:e-1<b.length:=om;have d:=f _ om (YL c);rcases m.le_of_le a (YL c) om with rfl|g
  ·exact d
  ·exact u9 _ _ _ g d
 ·cases a
theorem KW{e:List α}{l:α}(m:k8 key e)(f:Nat)(g:∀i,e[f]?=some i->cB (key l) (key i)=true):∀k∈e.drop f,cB (key l) (key k)=true:=by
 intro k h;obtain⟨n,a⟩:=Za h;rw[List.getElem?_drop]at a;have j:=(List.getElem?_eq_some_iff.1 a).1;have c:f<e.length:=om;have d:=g _ (YL c);rcases m.le_of_le (YL c) a om with b|b
 ·rw[<-b];exact d
 ·exact u9 _ _ _ d b
theorem CX{l b a:List α}{c:α}(d:(b++c::a).Perm l)(h:(l.map key).Nodup)(i:k8 key (b++a))(g:∀e∈b,cB (key e) (key c)=true)(f:∀e∈a,cB (key c) (key e)=true):cE key l=b++c::a:=
 lT h d (GK i g f)
theorem GM{a:List α}{e:α}(c:k8 key a)(i:((e::a).map key).Nodup)(b:Nat)(h:b<=a.length)(g:∀d,0<b->a[b-1]?=some d->cB (key d) (key e)=true)(f:∀d,a[b]?=some d->cB (key e) (key d)=true):
  cE key (e::a)=a.take b++e::a.drop b:=
 CX (List.perm_middle.trans (by rw[YR])) i (by rw[YR];exact c) (KV c b h g) (KW c b f)
theorem Ji{a:List α}{e:α}(c:k8 key a)(i:((a++[e]).map key).Nodup)(b:Nat)(h:b<=a.length)(g:∀d,0<b->a[b-1]?=some d->cB (key d) (key e)=true)(f:∀d,a[b]?=some d->cB (key e) (key d)=true):
  cE key (a++[e])=a.take b++e::a.drop b:=
 CX ((GL _ _ _).trans (by rw[YR])) i (by rw[YR];exact c) (KV c b h g) (KW c b f)
theorem My{c b:List α}(l:k8 key c)(m:k8 key b)(g:((c++b).map key).Nodup)(d t:Nat)(i:d<=c.length)(k:t<=b.length) 
  (j:∀f e,0<d->c[d-1]?=some f->b[t]?=some e->cB (key f) (key e)=true)
  (h:∀f e,0<t->b[t-1]?=some f->c[d]?=some e->cB (key f) (key e)=true):
  cE key (c++b)=cE key (c.take d++b.take t)++cE key (c.drop d++b.drop t)/\((c.take d++b.take t).map key).Nodup/\((c.drop d++b.drop t).map key).Nodup:=by
 have a:=va (GH c b d t) g;rw[Y3,YZ]at a;refine⟨lT g (((dG _).append (dG _)).trans (GH c b d t)) ?_,a.1,a.2.1⟩;exact Pk (hL a.1) (hL a.2.1) (dG _) (dG _) (Ul l m d t i k j h)
end
section
variable{C:dU} {cD:FuncId->List Value->Option Value}
theorem AO{f:FuncId}{dN c:List V}{es:Nat}{b:List (List V)}{P:dC->List (List V)->Prop}(s:b1 C cD f dN [.row es b] fun k m=>∃a,m=[.row es a]/\cN k=true/\(∀e∈a,e5 0 e=true)/\P k a) 
  (o:Nat) {g:VS} {A:dC->VS->Prop} (n:nth g o=some (.row es b)) (p:∀e∈b,e5 0 e=true) (l:e5 1 dN=true) (y:c=gU (jg [o] g.length) dN) (t:∀k a,P k a->A k (g.set o (.row es a))):
  b1 C cD f c g A:=by
 have d:∀(h:Nat->Nat) (q:List (List V)),(∀e∈q,e5 0 e=true)->dH h (.row es q)=.row es q:=by
  intro h q j;simp only[dH];congr 1;conv=>rhs;rw[<-List.map_id q]
  exact List.map_congr_left fun e i=>fj h e (j e i)
 refine s.frame [o] Z sm (fun B z j=>?_) l y (fun w u j _=>?_)
 ·cases B with
  |zero=>
   obtain rfl:o=z:=by simpa using j
   refine⟨.row es b,Z,?_,?_⟩
   ·rw[<-cv,n,d _ _ p]
   ·simp only[fG,List.all_eq_true];exact fun e i=>gl 1 e (p e i)
  |succ B=>simp at j
 ·obtain⟨a,rfl,r,x,v⟩:=j;rw[k7 _ _ r];simp only[List.map_cons,List.map_nil,d _ _ x,merge,List.append_nil];exact t w a v
end
end Go.VM
namespace Go.Proofs.YtpejealjkmhkgaaGreatDoor
open Go.AM Go.VM
theorem yu(l:List FE):∀b∈rows l,e5 0 b=true:=by
 intro b a;simp only[rows,List.map_map,List.mem_map]at a;obtain⟨c,_,rfl⟩:=a;exact pc 0 (fe c)
def ew:Bool->Nat
 |false=>7
 |true=>9
def wI:Bool->FE->List D
 |false,a=>fe a
 |true,a=>pe a
def X4:Bool->FE->V
 |false,a=>fw a
 |true,a=>pw a
def dd(b:Bool)(xs:List FE):List (List V):=(xs.map (wI b)).map fun a=>a.map V.d
def lU:Bool->V
 |false=>.fn o7 [] []
 |true=>.fn ru [] []
def VE:Bool->FuncId
 |false=>j8
 |true=>jP
def VF:Bool->FuncId
 |false=>k5
 |true=>kz
def VG:Bool->FuncId
 |false=>je
 |true=>iK
def Mz:Bool->FuncId
 |false=>ky
 |true=>j0
def Xa:Bool->FuncId
 |false=>k4
 |true=>kx
def Xb:Bool->FuncId
 |false=>kL
 |true=>j7
abbrev yv{b c:Bool}(_:b=c):Bool:=b
theorem mj{a:Bool}(l:List FE)(b:Nat)(c:FE):(dd a l).set b ((wI a c).map V.d)=dd a (l.set b c):=by
 simp only[dd,List.map_set]
theorem gL{b:Bool}{l:List FE}{c:Nat}{a:FE}(d:l[c]?=some a):nth (dd b l) c=some ((wI b a).map V.d):=by
 rw[cv,dd,List.getElem?_map,List.getElem?_map,d];rfl
theorem yw{c:Bool}(l:List FE):∀b∈dd c l,e5 0 b=true:=by
 intro b a;simp only[dd,List.map_map,List.mem_map]at a;obtain⟨d,_,rfl⟩:=a;exact pc 0 (wI c d)
theorem y3(e:Bool)(f c g d h:List FE)(S:c.length=d.length)(n j b o:Nat)(O:n=(f++(c++(g++(d++h)))).length)(ac:j=f.length)(W:b=f.length+(c.length+g.length))(X:o=c.length)(aa:n<4294967296):
  b1 C b7 (VE e) [.ms 0 (ew e) 0 n n,b3 j,b3 b,b3 o,(lU e)] [.row (ew e) (dd e (f++(c++(g++(d++h)))))] fun U E=>E=[.row (ew e) (dd e (f++(d++(g++(c++h)))))]/\U=.ret (.dV []):=by
 have M:e=e:=rfl;cases e;all_goals
  let e:Bool:=yv M
  have Q:n=f.length+(c.length+(g.length+(d.length+h.length))):=by rw[O];simp
  refine b9 ?_;refine cF (eW:=[(0,.ms 0 (ew e) 0 n n),(1,b3 j),(2,b3 b),(3,b3 o),(10,b3 0)]) (ii:=[.row (ew e) (dd e (f++(d.take 0++(c.drop 0++(g++(c.take 0++(d.drop 0++h)))))))]) (.same ⟨Z,Z,Z,Z,Z,tv⟩ Z) ?_;refine cl.iter (fun a:Nat=>[(0,.ms 0 (ew e) 0 n n),(1,b3 j),(2,b3 b),(3,b3 o),(10,b3 a)]) (fun a=>[.row (ew e) (dd e (f++(d.take a++(c.drop a++(g++(c.take a++(d.drop a++h)))))))]) (fun a=>o-a) (fun a=>a<=o) ?_ 0 (Y6 _);intro a ab;apply aZ<;>intro K
  ·have q:a<o:=fF K;have r:a<c.length:=om;have s:a<d.length:=om;have P:c.drop a=c[a]::c.drop (a+1):=YS r;have L:d.drop a=d[a]::d.drop (a+1):=YS s;have y:c.take (a+1)=c.take a++[c[a]]:=by rw[YW,YL r];rfl
   have A:d.take (a+1)=d.take a++[d[a]]:=by rw[YW,YL s];rfl
   have F:(c.take a).length=a:=by simp;omega
   have v:(d.take a).length=a:=by simp;omega
   have G:(c.drop (a+1)).length=c.length-(a+1):=by simp
   have I:f++(d.take a++(c.drop a++(g++(c.take a++(d.drop a++h)))))=(f++d.take a)++c[a]::((c.drop (a+1)++(g++c.take a))++d[a]::(d.drop (a+1)++h)):=by rw[P,L];simp only[YO,YQ,YT]
   have H:f++(d.take (a+1)++(c.drop (a+1)++(g++(c.take (a+1)++(d.drop (a+1)++h)))))=(f++d.take a)++d[a]::((c.drop (a+1)++(g++c.take a))++c[a]::(d.drop (a+1)++h)):=by rw[y,A];simp only[YO,YQ,YT]
   have p:j+a=(f++d.take a).length:=by rw[YU,v];omega
   have t:b+a=(f++d.take a).length+1+(c.drop (a+1)++(g++c.take a)).length:=by simp only[YU,v,F,G];omega
   have D:IntKind.i64.wrap (YM j+YM a)=YM (j+a):=dg om;have B:IntKind.i64.wrap (YM b+YM a)=YM (b+a):=dg om;have k:=qQ (f++d.take a) ((c.drop (a+1)++(g++c.take a))++d[a]::(d.drop (a+1)++h)) c[a] (j+a) p;have l:=wH (f++d.take a) (c.drop (a+1)++(g++c.take a)) (d.drop (a+1)++h) c[a] d[a] (b+a) t;have i:=EE (f++d.take a) (c.drop (a+1)++(g++c.take a)) (d.drop (a+1)++h) c[a] d[a] (j+a) (b+a) p t;rw[<-I]at k l i;rw[<-H]at i;generalize c[a]=Y at k l i;generalize d[a]=N at k l i;dsimp only;generalize f++(d.take a++(c.drop a++(g++(c.take a++(d.drop a++h)))))=m at k l i⊢;have x:nth (dd e m) (0+(j+a))=some ((wI e Y).map V.d):=by rw[YN];exact gL k
   have u:nth (dd e m) (0+(b+a))=some ((wI e N).map V.d):=by rw[YN];exact gL l
   have w:nth ((dd e m).set (0+(j+a)) ((wI e N).map V.d)) (0+(b+a))=some ((wI e N).map V.d):=by
    rw[cv,YX om,<-cv];exact u
   have J:j+a<n:=om;have z:b+a<n:=om;repeat first
    |refine b0 D ?_
    |refine b0 B ?_
    |refine a1 J ?_
    |refine a1 z ?_
    |refine b4 _ w ?_
    |refine b4 _ x ?_
    |refine b4 _ u ?_
    |refine b8 ?_
   refine⟨a+1,q,by show o-(a+1)<o-a;omega,.same ⟨rfl,rfl,rfl,rfl,int_eq (cp om),tv⟩ ?_,rfl,rfl⟩;rw[<-i,<-mj,<-mj,YN,YN];rfl
  ·have q:o<=a:=dR K;refine⟨?_,Z⟩;rw[Y0 om,Y0 om,Y1 om,Y1 om];simp;exact⟨Z,Z⟩
theorem e3{a b:Nat}(d:b<=a)(c:a<9223372036854775808):IntKind.i64.wrap (YM a-YM b)=YM (a-b):=by
 simp only[YP];rw[wrap64 om om];omega
theorem vi{a b:Int}{c:IntKind}(d:a=b):V.d (.int c a)=V.d (.int c b):=by rw[d]
theorem Yr{c b:Nat}(a:(!decide (YM c=YM b))=true):c≠b:=by
 rw[Bool.not_eq_true']at a;exact Er a
theorem Xc{c b:Nat}(a:(!decide (YM c=YM b))=false):c=b:=by
 rw[Bool.not_eq_false']at a;exact CM a
theorem qR(a:Bool)(d c l m o:List FE)(i:c.length=m.length)(n p b t:Nat)(v:List FE)(r:v=d++(c++(l++(m++o))))(x:n=v.length)(y:p=d.length)(q:b=d.length+(c.length+l.length))(s:t=c.length)(w:n<4294967296) 
  {g e h:V} (k:g=b3 p) (j:e=b3 b) (f:h=b3 t) {z:dC->VS->Prop} (u:z (.ret (.dV [])) [.row (ew a) (dd a (d++(m++(l++(c++o)))))]):b1 C b7 (VE a) [.ms 0 (ew a) 0 n n,g,e,h,(lU a)] [.row (ew a) (dd a v)] z:=by
 subst k j f r;refine(y3 a d c l m o i n p b t x y q s w).mono (fun D A B=>?_);rw[B.1,B.2];exact u
theorem EF(f:Bool)(q p s y:List FE)(H:0<p.length)(K:0<s.length)(n L o b:Nat)(I:n=(q++(p++(s++y))).length)(Q:L=q.length)(J:o=q.length+p.length)(P:b=q.length+(p.length+s.length))(z:n<4294967296):
  b1 C b7 (VF f) [.ms 0 (ew f) 0 n n,b3 L,b3 o,b3 b,(lU f)] [.row (ew f) (dd f (q++(p++(s++y))))] fun O E=>E=[.row (ew f) (dd f (q++(s++(p++y))))]/\O=.ret (.dV []):=by
 have G:f=f:=rfl;cases f;all_goals
  let f:Bool:=yv G
  have D:n=q.length+(p.length+(s.length+y.length)):=by rw[I];simp
  refine b9 ?_;refine cF (eW:=[(0,.ms 0 (ew f) 0 n n),(2,b3 o),(4,(lU f)),(10,b3 p.length),(11,b3 s.length)]) (ii:=[.row (ew f) (dd f (q++(p++(s++y))))]) (.same ⟨Z,Z,Z,int_eq (by rw[e3 om om];congr 1;omega),int_eq (by rw[e3 om om];congr 1;omega),tv⟩ rfl) ?_;refine cl.iter (fun g:List FE×List FE×List FE×List FE=>[(0,.ms 0 (ew f) 0 n n),(2,b3 o),(4,(lU f)),(10,b3 g.2.1.length),(11,b3 g.2.2.1.length)]) (fun g=>[.row (ew f) (dd f (g.1++(g.2.1++(g.2.2.1++g.2.2.2))))]) (fun g=>g.2.1.length+g.2.2.1.length)
   (fun g=>0<g.2.1.length/\0<g.2.2.1.length/\o=g.1.length+g.2.1.length/\n=g.1.length+(g.2.1.length+(g.2.2.1.length+g.2.2.2.length))/\q++(s++(p++y))=g.1++(g.2.2.1++(g.2.1++g.2.2.2))) ?_ (q,p,s,y) ⟨H,K,J,D,rfl⟩
  rintro⟨d,a,c,e⟩ ⟨v,u,r,l,w⟩;have v:0<a.length:=v;have u:0<c.length:=u;have r:o=d.length+a.length:=r;have l:n=d.length+(a.length+(c.length+e.length)):=l;have w:q++(s++(p++y))=d++(c++(a++e)):=w;apply aZ<;>intro F
  ·have m:=Yr F;apply aZ<;>intro B
   ·have t:c.length<a.length:=fF B;obtain⟨i,h,rfl,x⟩:=Jh a c.length om;simp only[YU]at v r l m t;refine qR f d i h c e x n (o-(i++h).length) o c.length _ sm (by simp;omega) (by simp;omega) om om z (vi (e3 (by simp;omega) om)) rfl rfl ?_;refine⟨(d++c,h,i,e),⟨by show 0<h.length;omega,by show 0<i.length;omega,by show o=(d++c).length+h.length;simp;omega,by show n=(d++c).length+(h.length+(i.length+e.length));simp;omega,?_⟩,by show h.length+i.length<(i++h).length+c.length;simp;omega,.same ⟨rfl,rfl,rfl,int_eq ?_,int_eq (by rw[x]),tv⟩ ?_,rfl,rfl⟩
    ·show _=(d++c)++(i++(h++e));rw[w];simp
    ·rw[e3 (by simp;omega) (by simp;omega)];congr 1;simp;omega
    ·show [cL.row (ew f) (dd f (d++(c++(h++(i++e)))))]=[.row (ew f) (dd f ((d++c)++(h++(i++e))))];rw[YO]
   ·have t:a.length<=c.length:=dR B;obtain⟨k,j,rfl,A⟩:=Jh c (c.length-a.length) om;simp only[YU]at u l m t A;refine qR f d a k j e om n (o-a.length) (o+(k++j).length-a.length) a.length _ sm (by simp;omega) om (by simp;omega) rfl z (vi (e3 om om)) (vi ?_) rfl ?_
    ·rw[dg (by simp;omega),e3 (by simp;omega) (by simp;omega)]
    refine⟨(d,j,k,a++e),⟨by show 0<j.length;omega,by show 0<k.length;omega,by show o=d.length+j.length;omega,by show n=d.length+(j.length+(k.length+(a++e).length));simp;omega,?_⟩,by show j.length+k.length<a.length+(k++j).length;simp;omega,.same ⟨rfl,rfl,rfl,int_eq (congrArg YM (show a.length=j.length by omega)),int_eq ?_,tv⟩ rfl,rfl,rfl⟩
    ·show _=d++(k++(j++(a++e)));rw[w];simp
    ·rw[e3 (by simp;omega) (by simp;omega)];congr 1;simp;omega
  ·have m:=Xc F;refine qR f d a [] c e m n (o-a.length) o a.length _ sm (by simp;omega) om (by simp;omega) rfl z (vi (e3 om om)) rfl rfl ?_;refine⟨?_,Z⟩;rw[w];rfl
theorem Um(a b:List UInt8):C.ext eb ([D.str a,D.str b].map cx)=some (cx (.int .i64 (vN a b))):=by
 show ext eb [.string ⟨⟨a⟩⟩,.string ⟨⟨b⟩⟩]=_;rfl
theorem Jj(c b:List UInt8){a:VS}{e:dC->VS->Prop}(d:e (.ret (.d (.int .i64 (vN c b)))) a):b1 C b7 o8 [cq c,cq b] a e:=by
 refine b9 ?_;refine b9 ?_;refine Ep (.int .i64 (vN c b)) (Um c b) Z ?_;exact d
theorem yx{a b:List UInt8}:decide (vN a b<0)=cB a b:=by
 rw[vN];cases cB a b with
 |true=>rfl
 |false=>cases kP a b<;>rfl
theorem tp(b:Bool)(d c:FE){a:VS}{f:dC->VS->Prop}(e:f (.ret (.d (.int .i64 (vN d.n c.n)))) a):b1 C b7 (match b with|false=>o7|true=>ru) [X4 b d,X4 b c] a f:=by
 cases b;all_goals
  refine cQ ?_ Z Z e;refine cz ?_;refine Jj d.n c.n ?_;refine cP.drop 0 ?_ ?_ ?_ ?_
  ·exact Z
  ·exact Z
  ·exact Z
  exact cP.now Z ⟨Z,Z⟩
def VH(a:Bool)(n c b d:Nat):Tm:=[(0,.ms 0 (ew a) 0 n n),(1,b3 c),(2,b3 b),(3,(lU a)),(8,b3 d)]
def TE(a:Bool)(n c b e d:Nat):Tm:=[(0,.ms 0 (ew a) 0 n n),(1,b3 c),(2,b3 b),(3,(lU a)),(8,b3 e),(9,b3 d)]
theorem y4(e:Bool)(l c p:List FE)(ag:(c.map FE.n).Nodup)(n i b:Nat)(an:n=(l++(c++p)).length)(X:i=l.length)(ax:b=l.length+c.length)(az:n<4294967296):
  b1 C b7 (VG e) [.ms 0 (ew e) 0 n n,b3 i,b3 b,(lU e)] [.row (ew e) (dd e (l++(c++p)))] fun aw ai=>ai=[.row (ew e) (dd e (l++(cE FE.n c++p)))]/\aw=.ret (.dV []):=by
 have hw:e=e:=rfl;cases e;all_goals
  let e:Bool:=yv hw
  have aq:n=l.length+(c.length+p.length):=by rw[an];simp
  refine b9 ?_;have ao:cE FE.n (c.take 1)=c.take 1:=by cases c<;>rfl
  refine cF (eW:=VH e n i b (i+1)) (ii:=[.row (ew e) (dd e (l++(cE FE.n (c.take 1)++(c.drop 1++p))))]) (.same ⟨Z,Z,Z,Z,int_eq (cp om),tv⟩ ?_) ?_
  ·show [cL.row (ew e) (dd e (l++(c++p)))]=_;rw[ao,<-YO (c.take 1),YR]
  refine cl.iter (fun d:Nat=>VH e n i b (i+d)) (fun d=>[.row (ew e) (dd e (l++(cE FE.n (c.take d)++(c.drop d++p))))]) (fun d=>c.length-d) (fun d=>1<=d/\(d<=c.length∨d=1)) ?_ 1 ⟨YV _,.inr Z⟩;rintro d ⟨av,au⟩;apply aZ<;>intro ak
  ·have m:d<c.length:=by have:=fF ak;omega
   have N:c[d]?=some c[d]:=YL m;have w:c.take (d+1)=c.take d++[c[d]]:=by rw[YW,N];rfl
   have L:c.drop d=c[d]::c.drop (d+1):=YS m;have o:((c.take (d+1)).map FE.n).Nodup:=by
    have:(c.take (d+1)).map FE.n=(c.map FE.n).take (d+1):=by rw[List.map_take]
    rw[this];exact(List.take_sublist _ _).nodup ag
   generalize c[d]=k at w L N;have W:((c.take d).map FE.n).Nodup:=by rw[w,Y3,YZ]at o;exact o.1
   have ab:∀g∈c.take d,g.n≠k.n:=by
    intro g S ap;rw[w,Y3,YZ]at o;exact o.2.2 g.n (Y5 S) k.n sm ap
   have B:=hL (key:=FE.n) W;have K:=dG (key:=FE.n) (c.take d);have z:(cE FE.n (c.take d)).length=d:=by rw[lS];simp;omega
   have J:∀g∈cE FE.n (c.take d),g.n≠k.n:=fun g S=>ab g (K.subset S);have u:∀j f,j++f=cE FE.n (c.take d)->(∀g∈j,cB g.n k.n=true)->(∀g∈f,cB k.n g.n=true)->cE FE.n (c.take (d+1))=j++k::f:=by
    intro j f h al s;refine lT o ?_ (GK (by rw[h];exact B) al s);rw[w];refine(GL j f k).trans ?_;rw[h];exact K.append_right _
   generalize cE FE.n (c.take d)=O at B z J u;have ar:(c.drop (d+1)).length=c.length-(d+1):=by simp
   refine cF (eW:=TE e n i b (i+d) (i+O.length)) (ii:=[.row (ew e) (dd e (l++(O++(k::([]++(c.drop (d+1)++p))))))]) (.same ⟨Z,Z,Z,Z,Z,by rw[z];rfl,tv⟩ ?_) ?_
   ·show [cL.row (ew e) (dd e (l++(O++(c.drop d++p))))]=_;rw[L];rfl
   refine cl.iter (fun G:List FE×List FE=>TE e n i b (i+d) (i+G.1.length)) (fun G=>[.row (ew e) (dd e (l++(G.1++(k::(G.2++(c.drop (d+1)++p))))))]) (fun G=>G.1.length) (fun G=>G.1++G.2=O/\∀g∈G.2,cB k.n g.n=true) ?_ (O,[]) ⟨by simp,by simp⟩;rintro⟨j,f⟩ ⟨h,s⟩;have h:j++f=O:=h;have s:∀g∈f,cB k.n g.n=true:=s;have R:j.length+f.length=d:=by rw[<-z,<-h];simp
   apply aZ<;>intro r
   ·have A:0<j.length:=by have:i<i+j.length:=fF r;omega
    obtain⟨a,g,rfl⟩:=Pl j A;have I:(a++[g]).length=a.length+1:=by simp
    have am:l++((a++[g])++(k::(f++(c.drop (d+1)++p))))=(l++a)++g::([]++k::(f++(c.drop (d+1)++p))):=by simp only[YO,YQ,YT]
    have aj:l++(a++(k::((g::f)++(c.drop (d+1)++p))))=(l++a)++k::([]++g::(f++(c.drop (d+1)++p))):=by simp only[YO,YQ,YT]
    have M:i+a.length=(l++a).length:=by simp[X]
    have P:=qQ (l++a) ([]++k::(f++(c.drop (d+1)++p))) g (i+a.length) M;have aa:=wH (l++a) [] (f++(c.drop (d+1)++p)) g k (i+(a.length+1)) (by simp[X];omega);have H:=GJ (l++a) [] (f++(c.drop (d+1)++p)) g k (i+a.length) (i+(a.length+1)) M (by simp[X];omega);rw[<-am]at P aa H;rw[<-aj]at H;have F:i+(a.length+1)<n:=by rw[I]at R;omega
    have D:i+a.length<n:=om;have ac:g∈O:=by rw[<-h];simp
    have Y:=J g ac;have Q:k8 FE.n (a++[g]):=by
     have:=B;rw[<-h]at this;exact(Y4.1 this).1
    dsimp only at r⊢;rw[I]at r⊢;generalize T:l++((a++[g])++(k::(f++(c.drop (d+1)++p))))=x at P aa H⊢;have y:IntKind.i64.wrap (YM (i+(a.length+1))-1)=YM (i+a.length):=by
     have:=e3 (a:=i+(a.length+1)) (b:=1) om om;rw[show i+(a.length+1)-1=i+a.length from by omega]at this;exact this
    have v:nth (dd e x) (0+(i+(a.length+1)))=some ((wI e k).map V.d):=by rw[YN];exact gL aa
    have q:nth (dd e x) (0+(i+a.length))=some ((wI e g).map V.d):=by rw[YN];exact gL P
    have t:nth ((dd e x).set (0+(i+(a.length+1))) ((wI e g).map V.d)) (0+(i+a.length))=some ((wI e g).map V.d):=by
     rw[cv,YX om,<-cv];exact q
    repeat first
     |refine b0 y ?_
     |refine b0 rfl ?_
     |refine a1 F ?_
     |refine a1 D ?_
     |refine b4 _ t ?_
     |refine b4 _ v ?_
     |refine b4 _ q ?_
     |refine a8 r ?_
     |refine b8 ?_
    refine tp e k g ?_;repeat first
     |refine b0 y ?_
     |refine b0 rfl ?_
     |refine a1 F ?_
     |refine a1 D ?_
     |refine b4 _ t ?_
     |refine b4 _ v ?_
     |refine b4 _ q ?_
     |refine a8 r ?_
     |refine b8 ?_
    apply aZ<;>intro ae
    ·have E:cB k.n g.n=true:=by rw[<-yx];exact ae
     repeat first
      |refine b0 y ?_
      |refine b0 rfl ?_
      |refine a1 F ?_
      |refine a1 D ?_
      |refine b4 _ t ?_
      |refine b4 _ v ?_
      |refine b4 _ q ?_
      |refine a8 r ?_
      |refine b8 ?_
     refine⟨(a,g::f),⟨by rw[<-h];simp,fun e hw=>?_⟩,by show a.length<a.length+1;omega,.same ⟨rfl,rfl,rfl,rfl,rfl,int_eq y,tv⟩ ?_,rfl,rfl⟩
     ·rcases List.mem_cons.1 hw with rfl|hw
      ·exact E
      ·exact s e hw
     ·show _=[cL.row (ew e) (dd e (l++(a++(k::((g::f)++(c.drop (d+1)++p))))))];rw[<-H,<-mj,<-mj,YN,YN];rfl
    ·have E:cB k.n g.n=false:=by rw[<-yx];exact ae
     have ad:cB g.n k.n=true:=wG _ _ E (fun aA=>Y aA.symm);refine⟨d+1,⟨om,.inl m⟩,by show c.length-(d+1)<c.length-d;omega,.same ⟨rfl,rfl,rfl,rfl,int_eq (cp om),tv⟩ ?_,rfl,rfl⟩;have:=u (a++[g]) f h (Pm Q ad) s;show [cL.row (ew e) (dd e x)]=[cL.row (ew e) (dd e (l++(cE FE.n (c.take (d+1))++(c.drop (d+1)++p))))];rw[this,<-T];simp<;>exact⟨rfl,rfl⟩
   ·have A:j.length=0:=by have ay:i+j.length<=i:=dR r;omega
    repeat first|refine a6 r ?_|refine b8 ?_
    have U:=List.eq_nil_of_length_eq_zero A;subst U;refine⟨d+1,⟨om,.inl m⟩,by show c.length-(d+1)<c.length-d;omega,.same ⟨rfl,rfl,rfl,rfl,int_eq (cp om),tv⟩ ?_,rfl,rfl⟩;have:=u [] f h sm s;show _=[cL.row (ew e) (dd e (l++(cE FE.n (c.take (d+1))++(c.drop (d+1)++p))))];rw[this];simp<;>exact⟨rfl,rfl⟩
  ·have m:c.length<=d:=by have:=dR ak;omega
   refine⟨?_,Z⟩;rw[Y0 m,Y1 m];rfl
theorem VI{n:Int}(b:0<=n)(a:n<18446744073709551616):IntKind.u64.wrap n=n:=by
 unfold IntKind.wrap;simp only[IntKind.signed,IntKind.bits];first
  |(show(if _ then _ else _)=_;split<;>omega)
  |(simp;omega)
theorem half{i j:Nat}(a:i+j<9223372036854775808):IntKind.i64.wrap (Int.fdiv (IntKind.u64.wrap (IntKind.i64.wrap (YM i+YM j))) (2^(min 1 IntKind.u64.bits)))=YM ((i+j)/2):=by
 rw[dg a,VI (by simp only[YP];omega) (by simp only[YP];omega)];have:Int.fdiv (YM (i+j)) (2^(min 1 IntKind.u64.bits))=YM ((i+j)/2):=by
  show Int.fdiv (YM (i+j)) 2=_;rw[Int.fdiv_eq_ediv_of_nonneg _ dc];simp only[YP];omega
 rw[this,wrap64 (by simp only[YP];omega) (by simp only[YP];omega)]
def TF(a:Bool)(n d e b t1 c t2 f:Nat):Tm:=[(0,.ms 0 (ew a) 0 n n),(1,b3 d),(2,b3 e),(3,b3 b),(4,(lU a)),(t1,b3 c),(t2,b3 f)]
theorem GN(d:Bool)(k:List FE)(e:FE)(a l:List FE)(ak:k8 FE.n a)(B:((e::a).map FE.n).Nodup)(n f g b:Nat)(aq:n=(k++(e::(a++l))).length)(au:f=k.length)(aA:g=f+1)(aj:b=g+a.length)(az:n<4294967296):
  b1 C b7 (Mz d) [.ms 0 (ew d) 0 n n,b3 f,b3 g,b3 b,(lU d)] [.row (ew d) (dd d (k++(e::(a++l))))] fun ay ac=>ac=[.row (ew d) (dd d (k++(cE FE.n (e::a)++l)))]/\ay=.ret (.dV []):=by
 have z:d=d:=rfl;cases d;all_goals
  let d:Bool:=yv z
  have aw:n=k.length+(a.length+l.length+1):=by rw[aq];simp
  have S:∀h∈a,h.n≠e.n:=by
   intro h an ar;rw[List.map_cons,List.nodup_cons]at B;exact B.1 (by rw[<-ar];exact Y5 an)
  have ab:IntKind.i64.wrap (YM g-YM f)=1:=by
   rw[e3 om om,show g-f=1 from by omega];rfl
  have av:(k++(e::(a++l)))[f]?=some e:=qQ k (a++l) e f au;have al:∀s (i:s<a.length),(k++(e::(a++l)))[g+s]?=some a[s]:=by
   intro s i;rw[YY om,show g+s-k.length=s+1 from om,List.getElem?_cons_succ,Y7 i,YL i]
  refine b9 ?_;refine aZ (fun ah=>?_) (fun ah=>absurd (ah.symm.trans (decide_eq_true ab)) dc);refine cF (eW:=TF d n f g b 10 (g+0) 11 (g+a.length)) (ii:=[.row (ew d) (dd d (k++(e::(a++l))))]) (.same ⟨Z,Z,Z,Z,Z,Z,by rw[<-aj];rfl,tv⟩ rfl) ?_;refine cl.iter (fun x:Nat×Nat=>TF d n f g b 10 (g+x.1) 11 (g+x.2)) (fun _=>[.row (ew d) (dd d (k++(e::(a++l))))]) (fun x=>x.2-x.1)
   (fun x=>x.1<=x.2/\x.2<=a.length/\(∀h,0<x.1->a[x.1-1]?=some h->cB h.n e.n=true)/\(∀h,a[x.2]?=some h->cB e.n h.n=true)) ?_ (0,a.length) ⟨Y6 _,YV _,fun h i=>absurd i (Nat.lt_irrefl _),fun h i=>by rw[Y9 (YV _)]at i;cases i⟩
  rintro⟨s,p⟩ ⟨K,v,H,F⟩;have K:s<=p:=K;have v:p<=a.length:=v;have H:∀h,0<s->a[s-1]?=some h->cB h.n e.n=true:=H;have F:∀h,a[p]?=some h->cB e.n h.n=true:=F;apply aZ<;>intro W
  ·have X:s<p:=by have q:g+s<g+p:=fF W;omega
   have j:=half (i:=g+s) (j:=g+p) om;obtain⟨i,ap⟩:∃i,(g+s+(g+p))/2=g+i:=⟨(s+p)/2,om⟩;rw[ap]at j;have ag:s<=i:=om;have T:i<p:=om;have N:=al i om;have E:a[i]?=some a[i]:=YL om;have O:a[i]∈a:=List.getElem_mem _;generalize a[i]=h at N E O;have o:nth (dd d (k++(e::(a++l)))) (0+(g+i))=some ((wI d h).map V.d):=by rw[YN];exact gL N
   have m:nth (dd d (k++(e::(a++l)))) (0+f)=some ((wI d e).map V.d):=by rw[YN];exact gL av
   have w:g+i<n:=om;have u:f<n:=om;repeat first
    |refine b0 j ?_
    |refine b0 rfl ?_
    |refine b4 _ o ?_
    |refine b4 _ m ?_
    |refine a1 w ?_
    |refine a1 u ?_
    |refine b8 ?_
   refine tp d h e ?_;repeat first
    |refine b0 j ?_
    |refine b0 rfl ?_
    |refine b4 _ o ?_
    |refine b4 _ m ?_
    |refine a1 w ?_
    |refine a1 u ?_
    |refine b8 ?_
   apply aZ<;>intro Y
   ·have D:cB h.n e.n=true:=by rw[<-yx];exact Y
    refine⟨(i+1,p),⟨T,v,fun d _ z=>?_,F⟩,by show p-(i+1)<p-s;omega,.same ⟨rfl,rfl,rfl,rfl,rfl,int_eq ?_,rfl,tv⟩ rfl,rfl,rfl⟩
    ·have:a[i]?=some d:=z;rw[E]at this;cases this;exact D
    ·rw[j];exact cp om
   ·have D:cB h.n e.n=false:=by rw[<-yx];exact Y
    have U:cB e.n h.n=true:=wG _ _ D (S h O);refine⟨(s,i),⟨ag,by show i<=a.length;omega,H,fun d z=>?_⟩,by show i-s<p-s;omega,.same ⟨rfl,rfl,rfl,rfl,rfl,rfl,int_eq j,tv⟩ rfl,rfl,rfl⟩;have:a[i]?=some d:=z;rw[E]at this;cases this;exact U
  ·have X:p<=s:=by have q:g+p<=g+s:=dR W;omega
   obtain rfl:s=p:=om;have P:=GM ak B s v H F;refine cF (eW:=TF d n f g b 10 (g+s) 13 (f+0)) (ii:=[.row (ew d) (dd d (k++(a.take 0++(e::(a.drop 0++l)))))]) (.same ⟨Z,Z,Z,Z,Z,Z,Z,tv⟩ Z) ?_;refine cl.iter (fun c:Nat=>TF d n f g b 10 (g+s) 13 (f+c)) (fun c=>[.row (ew d) (dd d (k++(a.take c++(e::(a.drop c++l)))))]) (fun c=>s-c) (fun c=>c<=s) ?_ 0 (Y6 _);intro c ax;have J:IntKind.i64.wrap (YM (g+s)-1)=YM (f+s):=by
    have:=e3 (a:=g+s) (b:=1) om om;rw[show g+s-1=f+s from by omega]at this;exact this
   apply aZ<;>intro M
   ·have r:c<s:=by
     have q:=of_decide_eq_true M;rw[J]at q;simp only[YP]at q;omega
    have L:c<a.length:=om;have ai:a.drop c=a[c]::a.drop (c+1):=YS L;have am:a.take (c+1)=a.take c++[a[c]]:=by rw[YW,YL L];rfl
    have R:(a.take c).length=c:=by simp;omega
    have af:k++(a.take c++(e::(a.drop c++l)))=(k++a.take c)++e::([]++a[c]::(a.drop (c+1)++l)):=by rw[ai];simp only[YO,YQ,YT]
    have ae:k++(a.take (c+1)++(e::(a.drop (c+1)++l)))=(k++a.take c)++a[c]::([]++e::(a.drop (c+1)++l)):=by rw[am];simp only[YO,YQ,YT]
    have t:f+c=(k++a.take c).length:=by rw[YU,R];omega
    have I:=qQ (k++a.take c) ([]++a[c]::(a.drop (c+1)++l)) e (f+c) t;have G:=wH (k++a.take c) [] (a.drop (c+1)++l) e a[c] (f+c+1) (by rw[<-t];rfl);have y:=EE (k++a.take c) [] (a.drop (c+1)++l) e a[c] (f+c) (f+c+1) t (by rw[<-t];rfl);rw[<-af]at I G y;rw[<-ae]at y;generalize a[c]=h at I G y;generalize ao:k++(a.take c++(e::(a.drop c++l)))=A at I G y;have m:nth (dd d A) (0+(f+c))=some ((wI d e).map V.d):=by rw[YN];exact gL I
    have o:nth (dd d A) (0+(f+c+1))=some ((wI d h).map V.d):=by rw[YN];exact gL G
    have Q:nth ((dd d A).set (0+(f+c)) ((wI d h).map V.d)) (0+(f+c+1))=some ((wI d h).map V.d):=by
     rw[cv,YX om,<-cv];exact o
    have j:IntKind.i64.wrap (YM (f+c)+1)=YM (f+c+1):=cp om;have w:f+c+1<n:=om;have u:f+c<n:=om;repeat first
     |refine b0 j ?_
     |refine b0 rfl ?_
     |refine b4 _ Q ?_
     |refine b4 _ m ?_
     |refine b4 _ o ?_
     |refine a1 w ?_
     |refine a1 u ?_
     |refine b8 ?_
    refine⟨c+1,r,by show s-(c+1)<s-c;omega,.same ⟨rfl,rfl,rfl,rfl,rfl,rfl,int_eq j,tv⟩ ?_,rfl,rfl⟩;rw[<-y,<-mj,<-mj,YN,YN];rfl
   ·have r:c=s:=by
     have q:=of_decide_eq_false M;rw[J]at q;simp only[YP]at q;omega
    subst r;refine⟨?_,Z⟩;rw[P];simp<;>exact⟨rfl,rfl⟩
theorem GO(e:Bool)(j a:List FE)(f:FE)(k:List FE)(aw:a.length≠1)(ak:k8 FE.n a)(D:((a++[f]).map FE.n).Nodup)(n d q b:Nat)(aq:n=(j++(a++(f::k))).length)(aB:d=j.length)(ag:q=d+a.length)(az:b=q+1)(aA:n<4294967296):
  b1 C b7 (Mz e) [.ms 0 (ew e) 0 n n,b3 d,b3 q,b3 b,(lU e)] [.row (ew e) (dd e (j++(a++(f::k))))] fun ay ae=>ae=[.row (ew e) (dd e (j++(cE FE.n (a++[f])++k)))]/\ay=.ret (.dV []):=by
 have x:e=e:=rfl;cases e;all_goals
  let e:Bool:=yv x
  have av:n=j.length+(a.length+(k.length+1)):=by rw[aq];simp
  have R:∀h∈a,h.n≠f.n:=by
   intro h aj am;rw[Y3,YZ]at D;exact D.2.2 h.n (Y5 aj) f.n sm am
  have U:IntKind.i64.wrap (YM q-YM d)≠1:=by
   rw[e3 om om,show q-d=a.length from by omega];simp only[YP];omega
  have T:IntKind.i64.wrap (YM b-YM q)=1:=by
   rw[e3 om om,show b-q=1 from by omega];rfl
  have ar:(j++(a++(f::k)))[q]?=some f:=by
   have:=qQ (j++a) k f q (by simp;omega);rw[YO]at this;exact this
  have al:∀s (g:s<a.length),(j++(a++(f::k)))[d+s]?=some a[s]:=by
   intro s g;rw[YY om,show d+s-j.length=s from om,Y7 g,YL g]
  refine b9 ?_;refine a6 (decide_eq_false U) ?_;refine a8 (decide_eq_true T) ?_;refine cF (eW:=TF e n d q b 14 (d+0) 15 (d+a.length)) (ii:=[.row (ew e) (dd e (j++(a++(f::k))))]) (.same ⟨Z,Z,Z,Z,Z,Z,by rw[<-ag];rfl,tv⟩ rfl) ?_;refine cl.iter (fun v:Nat×Nat=>TF e n d q b 14 (d+v.1) 15 (d+v.2)) (fun _=>[.row (ew e) (dd e (j++(a++(f::k))))]) (fun v=>v.2-v.1)
   (fun v=>v.1<=v.2/\v.2<=a.length/\(∀h,0<v.1->a[v.1-1]?=some h->cB h.n f.n=true)/\(∀h,a[v.2]?=some h->cB f.n h.n=true)) ?_ (0,a.length) ⟨Y6 _,YV _,fun h g=>absurd g (Nat.lt_irrefl _),fun h g=>by rw[Y9 (YV _)]at g;cases g⟩
  rintro⟨s,p⟩ ⟨J,m,G,E⟩;have J:s<=p:=J;have m:p<=a.length:=m;have G:∀h,0<s->a[s-1]?=some h->cB h.n f.n=true:=G;have E:∀h,a[p]?=some h->cB f.n h.n=true:=E;apply aZ<;>intro aa
  ·have ab:s<p:=by have O:d+s<d+p:=fF aa;omega
   have i:=half (i:=d+s) (j:=d+p) om;obtain⟨g,ap⟩:∃g,(d+s+(d+p))/2=d+g:=⟨(s+p)/2,om⟩;rw[ap]at i;have W:s<=g:=om;have Y:g<p:=om;have I:=al g om;have B:a[g]?=some a[g]:=YL om;have M:a[g]∈a:=List.getElem_mem _;generalize a[g]=h at I B M;have o:nth (dd e (j++(a++(f::k)))) (0+(d+g))=some ((wI e h).map V.d):=by rw[YN];exact gL I
   have l:nth (dd e (j++(a++(f::k)))) (0+q)=some ((wI e f).map V.d):=by rw[YN];exact gL ar
   have r:d+g<n:=om;have u:q<n:=om;repeat first
    |refine b0 i ?_
    |refine b0 rfl ?_
    |refine b4 _ o ?_
    |refine b4 _ l ?_
    |refine a1 r ?_
    |refine a1 u ?_
    |refine b8 ?_
   refine tp e f h ?_;repeat first
    |refine b0 i ?_
    |refine b0 rfl ?_
    |refine b4 _ o ?_
    |refine b4 _ l ?_
    |refine a1 r ?_
    |refine a1 u ?_
    |refine b8 ?_
   apply aZ<;>intro ac
   ·have z:cB f.n h.n=false:=by rw[<-yx];simpa using ac
    have S:cB h.n f.n=true:=wG _ _ z (fun g=>R h M g.symm);refine⟨(g+1,p),⟨Y,m,fun e _ x=>?_,E⟩,by show p-(g+1)<p-s;omega,.same ⟨rfl,rfl,rfl,rfl,rfl,int_eq ?_,rfl,tv⟩ rfl,rfl,rfl⟩
    ·have:a[g]?=some e:=x;rw[B]at this;cases this;exact S
    ·rw[i];exact cp om
   ·have z:cB f.n h.n=true:=by rw[<-yx];simpa using ac
    refine⟨(s,g),⟨W,by show g<=a.length;omega,G,fun e x=>?_⟩,by show g-s<p-s;omega,.same ⟨rfl,rfl,rfl,rfl,rfl,rfl,int_eq i,tv⟩ rfl,rfl,rfl⟩;have:a[g]?=some e:=x;rw[B]at this;cases this;exact z
  ·have ab:p<=s:=by have O:d+p<=d+s:=dR aa;omega
   obtain rfl:s=p:=om;have N:=Ji ak D s m G E;refine cF (eW:=TF e n d q b 14 (d+s) 17 (d+a.length)) (ii:=[.row (ew e) (dd e (j++(a.take a.length++(f::(a.drop a.length++k)))))]) (.same ⟨Z,Z,Z,Z,Z,Z,by rw[<-ag];rfl,tv⟩ (by rw[List.take_length,List.drop_length];rfl)) ?_;refine cl.iter (fun c:Nat=>TF e n d q b 14 (d+s) 17 (d+c)) (fun c=>[.row (ew e) (dd e (j++(a.take c++(f::(a.drop c++k)))))]) (fun c=>c) (fun c=>s<=c/\c<=a.length) ?_ a.length ⟨m,YV _⟩;rintro c ⟨ax,au⟩;apply aZ<;>intro L
   ·have A:s<c:=by have O:d+s<d+c:=fF L;omega
    obtain⟨c,rfl⟩:∃aC,c=aC+1:=⟨c-1,om⟩;have K:c<a.length:=om;have an:a.drop c=a[c]::a.drop (c+1):=YS K;have ao:a.take (c+1)=a.take c++[a[c]]:=by rw[YW,YL K];rfl
    have X:(a.take c).length=c:=by simp;omega
    have ai:j++(a.take (c+1)++(f::(a.drop (c+1)++k)))=(j++a.take c)++a[c]::([]++f::(a.drop (c+1)++k)):=by rw[ao];simp only[YO,YQ,YT]
    have ah:j++(a.take c++(f::(a.drop c++k)))=(j++a.take c)++f::([]++a[c]::(a.drop (c+1)++k)):=by rw[an];simp only[YO,YQ,YT]
    have t:d+c=(j++a.take c).length:=by rw[YU,X];omega
    have H:=qQ (j++a.take c) ([]++f::(a.drop (c+1)++k)) a[c] (d+c) t;have F:=wH (j++a.take c) [] (a.drop (c+1)++k) a[c] f (d+(c+1)) (by rw[<-t];rfl);have w:=GJ (j++a.take c) [] (a.drop (c+1)++k) a[c] f (d+c) (d+(c+1)) t (by rw[<-t];rfl);rw[<-ai]at H F w;rw[<-ah]at w;generalize a[c]=h at H F w;generalize P:j++(a.take (c+1)++(f::(a.drop (c+1)++k)))=y at H F w;have l:nth (dd e y) (0+(d+(c+1)))=some ((wI e f).map V.d):=by rw[YN];exact gL F
    have o:nth (dd e y) (0+(d+c))=some ((wI e h).map V.d):=by rw[YN];exact gL H
    have Q:nth ((dd e y).set (0+(d+(c+1))) ((wI e h).map V.d)) (0+(d+c))=some ((wI e h).map V.d):=by
     rw[cv,YX om,<-cv];exact o
    have i:IntKind.i64.wrap (YM (d+(c+1))-1)=YM (d+c):=by
     have:=e3 (a:=d+(c+1)) (b:=1) om om;rw[show d+(c+1)-1=d+c from by omega]at this;exact this
    have r:d+(c+1)<n:=om;have u:d+c<n:=om;subst P;repeat first
     |refine b0 i ?_
     |refine b0 rfl ?_
     |refine b4 _ Q ?_
     |refine b4 _ l ?_
     |refine b4 _ o ?_
     |refine a1 r ?_
     |refine a1 u ?_
     |refine b8 ?_
    refine⟨c,⟨om,om⟩,by show c<c+1;omega,.same ⟨rfl,rfl,rfl,rfl,rfl,rfl,int_eq i,tv⟩ ?_,rfl,rfl⟩;rw[<-w,<-mj,<-mj,YN,YN];rfl
   ·have A:c=s:=by have O:d+c<=d+s:=dR L;omega
    subst A;refine⟨?_,Z⟩;rw[N];simp<;>exact⟨rfl,rfl⟩
end Go.Proofs.YtpejealjkmhkgaaGreatDoor
