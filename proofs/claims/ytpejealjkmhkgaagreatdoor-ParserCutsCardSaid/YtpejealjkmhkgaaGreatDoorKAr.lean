/- Part of the proof. -/
import Derived.Test.YtpejealjkmhkgaaGreatDoorKAq
set_option linter.all false
set_option maxHeartbeats 16000000
set_option maxRecDepth 100000
open List renaming getElem?_eq_some_iff->YL,getElem?_eq_getElem->YM,length_set->YN,length_take->YP,mem_cons_of_mem->YQ,length_map->YT,mem_cons->YU,mem_of_mem_take->YV,mem_of_mem_drop->YW,mem_of_getElem?->YX,getElem?_of_mem->YY,map_congr_left->YZ,mem_cons_self->Y0
open Nat renaming le_of_ble_eq_true->YO,le_refl->YR
open Bool renaming and_eq_true->YS
namespace Go.VM
open Go.AM
def Fz.CL(Φ dx:Fz):Prop:=∀b a,Φ b=some a->Φ.BR b->dx b=some a/\dx.BR b
theorem uS.rk{Φ dx:Fz}(m:Φ.CL dx){l:D}(d:uS Φ l):uS dx l:=by
 induction d with
 |bool b=>exact .bool b
 |int p n=>exact .int p n
 |str o=>exact .str o
 |DR=>exact .DR
 |cn=>exact .cn
 |BQ=>exact .BQ
 |DS=>exact .DS
 |vO=>exact .vO
 |ps c f i g _ a e=>exact .ps (m _ _ c a).1 f i g e (m _ _ c a).2
theorem eV.rk{Φ dx:Fz}{m:Nat}(f:Φ.CL dx){q:V}(i:eV Φ m q):eV dx m q:=by
 induction i with
 |d c=>exact .d (c.rk f)
 |bp a=>exact .bp a
 |ptr a=>exact .ptr a
 |fp a l p n e=>exact .fp (f _ _ a e).1 l p (fun d c=>(n d c).rk f) (f _ _ a e).2
 |ms a=>exact .ms a
 |map a=>exact .map a
 |fn _ _ g o=>exact .fn g o
 |rN a=>exact .rN a
 |iface _ b=>exact .iface b
 |agg _ b=>exact .agg b
 |dV _ b=>exact .dV b
theorem Fg.rk{Φ dx:Fz}{ρ:Nat->Nat}{m:Nat}{st:St}{o:cL}{b:Nat}(i:Φ.CL dx)(d:Fg Φ ρ m st o b):Fg dx ρ m st o b:=by
 cases o with
 |box u=>exact⟨d.1,fun g c=>(d.2.1 g c).rk i,d.2.2⟩
 |row s t=>exact⟨d.1,d.2.1,fun e f g c=>(d.2.2.1 e f g c).rk i,d.2.2.2⟩
 |map s l=>exact⟨d.1,fun e f=>⟨(d.2 e f).1.rk i,(d.2 e f).2.rk i⟩⟩
 |loop v=>
  obtain⟨q,n,a⟩:=d;exact⟨q,n,a.state,a.pending,a.fn,fun p g c=>⟨(a.tm p g c).1,(a.tm p g c).2.rk i⟩,a.nt,a.params,a.assign,a.body,a.defers,a.fF⟩
 |eG p=>exact d
 |gone=>trivial
def jg(a:List Nat)(c b:Nat):Nat:=
 match nth a b with
 |some i=>i
 |none=>c+(b-a.length)
def merge:VS->List Nat->VS->VS
 |σ,[],l=>σ++l
 |σ,_::_,[]=>σ
 |σ,i::a,b::l=>merge (σ.set i b) a l
theorem Mm:∀(a:List Nat) (σ l:VS),a.length<=l.length->(merge σ a l).length=σ.length+(l.length-a.length):=by
 intro a;induction a with
 |nil=>intro σ l _;simp[merge]
 |cons i a b=>
  intro σ l c;cases l with
  |nil=>simp at c
  |cons d l=>
   simp only[merge];rw[b _ _ (by simpa using c),YN];simp
theorem Au:∀(a:List Nat) (σ l:VS) (i:Nat),i ∉ a->i<σ.length->(merge σ a l)[i]?=σ[i]?:=by
 intro a;induction a with
 |nil=>intro σ l i _ d;simp only[merge];rw[List.getElem?_append_left d]
 |cons f a c=>
  intro σ l i b d;cases l with
  |nil=>rfl
  |cons g l=>
   simp only[merge];rw[c _ _ _ (fun e=>b (by simp[e])) (by rw[YN];exact d),List.getElem?_set_ne (fun e=>b (by simp[e]))]
theorem wa:∀(a:List Nat) (σ l:VS) (d i:Nat),a.Nodup->(∀i∈a,i<σ.length)->a.length<=l.length->a[d]?=some i->(merge σ a l)[i]?=l[d]?:=by
 intro a;induction a with
 |nil=>intro σ l d i _ _ _ e;simp at e
 |cons o a m=>
  intro σ l d i g b f e;cases l with
  |nil=>simp at f
  |cons p l=>
   simp only[merge];have c:=List.nodup_cons.1 g;cases d with
   |zero=>
    simp at e;subst e;rw[Au _ _ _ _ c.1 (by rw[YN];exact b _ sm),List.getElem?_set_self (b _ sm)];rfl
   |succ d=>
    rw[m _ _ d i c.2 (fun i n=>by rw[YN];exact b i (by simp[n])) (by simpa using f) (by simpa using e)];rfl
theorem Mn:∀(a:List Nat) (σ l:VS) (b:Nat),a.length<=l.length->(merge σ a l)[σ.length+b]?=l[a.length+b]?:=by
 intro a;induction a with
 |nil=>intro σ l b _;simp only[merge,List.length_nil,Nat.zero_add];rw[List.getElem?_append_right om];congr 1;omega
 |cons i a c=>
  intro σ l b d;cases l with
  |nil=>simp at d
  |cons e l=>
   simp only[merge];have:=c (σ.set i e) l b (by simpa using d);rw[YN]at this;rw[this,List.length_cons,show a.length+1+b=(a.length+b)+1 from by omega];rfl
def mf(a:Nat->Nat):dC->dC
 |.ret b=>.ret (gJ a b)
 |.eE b=>.eE (gJ a b)
variable{k:List Nat} {h:dC->VS->Prop}
section
variable{C:dU} {cD:FuncId->List Value->Option Value} {Φ:Fz} {ρ:Nat->Nat} {σ:VS} {st:St}
def hA(σ:VS)(ρ:Nat->Nat)(a:List Nat)(c:Nat):Prop:=∃i b,σ[i]?=some b/\live b=true/\i ∉ a/\ρ i=c
open Classical in
noncomputable def qB(Φ:Fz)(σ:VS)(ρ:Nat->Nat)(a:List Nat)(st:St):Fz:=
 ⟨fun b=>if hA σ ρ a b then st.get b else Φ b,fun b=>Φ.BR b/\¬hA σ ρ a b,fun f=>Φ.qu f∨∃i c,σ[i]?=some (.box c)/\i ∉ a/\ρ i=f⟩
open Classical in
noncomputable def Av(Φ a:Fz)(σ:VS)(ρ:Nat->Nat)(b:List Nat):Fz:=
 ⟨fun c=>if hA σ ρ b c then none else a c,a.BR,Φ.qu⟩
open Classical in
theorem oT{a:List Nat}{b:Nat}(c:hA σ ρ a b):(qB Φ σ ρ a st) b=st.get b:=by
 show(if hA σ ρ a b then st.get b else Φ b)=_;rw[if_pos c]
open Classical in
theorem lP{a:List Nat}{b:Nat}(c:¬hA σ ρ a b):(qB Φ σ ρ a st) b=Φ b:=by
 show(if hA σ ρ a b then st.get b else Φ b)=_;rw[if_neg c]
open Classical in
theorem lQ{a:Fz}{b:List Nat}{c:Nat}(d:hA σ ρ b c):(Av Φ a σ ρ b) c=none:=by
 show(if hA σ ρ b c then none else a c)=_;rw[if_pos d]
open Classical in
theorem jO{a:Fz}{b:List Nat}{c:Nat}(d:¬hA σ ρ b c):(Av Φ a σ ρ b) c=a c:=by
 show(if hA σ ρ b c then none else a c)=_;rw[if_neg d]
def Aw(ρ a:Nat->Nat)(b c:Nat):Nat->Nat:=fun i=>if i<b then ρ i else a (c+(i-b))
theorem pY(q:Real Φ ρ σ st){i:Nat}{o:cL}(m:σ[i]?=some o)(c:live o=true):∃a,st.get (ρ i)=some a/\((∃u e f p,a=.cells u e f p)->oL o=true):=by
 have b:=(q.obj i o m c).1;cases o with
 |box s=>exact⟨_,b.1.1,fun _=>rfl⟩
 |row l n=>obtain⟨⟨f,p,g⟩,_⟩:=b;exact⟨_,g,fun _=>rfl⟩
 |map l d=>exact⟨_,b.1,fun⟨_,_,_,_,e⟩=>by cases e⟩
 |loop w=>obtain⟨t,g,_⟩:=b;exact⟨_,g,fun⟨_,_,_,_,e⟩=>by cases e⟩
 |eG v=>exact⟨_,b,fun⟨_,_,_,_,e⟩=>by cases e⟩
 |gone=>cases c
theorem jY{a i:Nat}(b:k[a]?=some i)(c:Nat):jg k c a=i:=by
 unfold jg;rw[cv,b]
theorem Em{a:Nat}(c:k.length<=a)(b:Nat):jg k b a=b+(a-k.length):=by
 unfold jg;rw[cv,List.getElem?_eq_none c]
theorem b1.frame(c:List Nat){f:FuncId}{L:VS}{dN aO:List V}{bW:dC->VS->Prop}(bQ:b1 C cD f dN L h)(bp:c.length=L.length)(bk:c.Nodup) 
  (aU:∀m i:Nat,c[m]?=some i->∃o,L[m]?=some o/\σ[i]?=some (dH (jg c σ.length) o)/\fG L.length o=true)
  (aR:e5 L.length dN=true) (aE:aO=gU (jg c σ.length) dN)
  (bS:∀au ar,h au ar->L.length<=ar.length->bW (mf (jg c σ.length) au) (merge σ c (ar.map (dH (jg c σ.length))))):b1 C cD f aO σ bW:=by
 refine⟨fun Φ ρ st O aW=>?_⟩;have ae:∀i∈c,i<σ.length:=fun i D=>by
  obtain⟨m,y⟩:=YY D;obtain⟨o,_,g,_⟩:=aU m i y;exact(YL.1 g).1
 have W:∀m o,L[m]?=some o->∃i,c[m]?=some i/\σ[i]?=some (dH (jg c σ.length) o)/\fG L.length o=true:=fun m o y=>by
  have ae:m<c.length:=by rw[bp];exact(YL.1 y).1
  refine⟨c[m],YM ae,?_⟩;obtain⟨ab,d,g,n⟩:=aU m _ (YM ae);rw[y]at d;cases d;exact⟨g,n⟩
 have bn:∀m A i,c[m]?=some i->c[A]?=some i->m=A:=fun m A i y v=>by
  have d:=(YL.1 y);have g:=(YL.1 v);obtain⟨a,aW⟩:=d;obtain⟨b,l⟩:=g;have bG:=List.pairwise_iff_getElem.1 bk;rcases Nat.lt_trichotomy m A with an|an|an
  ·exact absurd (aW.trans l.symm) (bG m A a b an)
  ·exact an
  ·exact absurd (l.trans aW.symm) (bG A m b a an)
 have aJ:∀P,hA σ ρ c P->Φ P=none:=fun P ⟨i,o,D,x,_,e⟩=>by rw[<-e];exact(O.obj i o D x).2
 have bt:∀{i:Nat} {o:cL},i∈c->σ[i]?=some o->live o=true->¬hA σ ρ c (ρ i):=fun{i o} D j x ⟨S,ab,d,g,n,e⟩=>n (by
  have:=O.inj S i ab o d j g x e;rw[this];exact D)
 have r:Φ.le (qB Φ σ ρ c st):=by
  refine⟨fun b o l=>?_,fun b o l=>?_,fun _ O=>.inl O⟩
  ·have:¬hA σ ρ c b:=fun u=>by rw[aJ b u]at l;cases l
   rw[lP this];exact l
  ·have:¬hA σ ρ c b:=fun u=>by rw[aJ b u]at l;cases l
   exact⟨fun aq=>aq.1,fun aq=>⟨aq,this⟩⟩
 have aP:∀P aD e fm p,(qB Φ σ ρ c st) P=some (.cells aD e fm p)->st.get P=some (.cells aD e fm p)/\((Φ P=some (.cells aD e fm p))∨∃i o,σ[i]?=some o/\oL o=true/\i ∉ c/\ρ i=P):=by
  intro P aD e fm p hx;by_cases u:hA σ ρ c P
  ·have bi:=u;rw[oT u]at hx;obtain⟨i,o,d,g,n,Y⟩:=u;obtain⟨a,t,aa⟩:=pY O d g;rw[Y,hx]at t;cases t;exact⟨hx,.inr ⟨i,o,d,aa ⟨_,_,_,_,Z⟩,n,Y⟩⟩
  ·rw[lP u]at hx;exact⟨O.fz _ _ hx,.inl hx⟩
 have bK:∀{o:cL},oL o=true->live o=true:=fun{o} j=>by cases o<;>first|rfl|cases j
 have bi:Real (qB Φ σ ρ c st) (fun m=>ρ (jg c σ.length m)) L st:=by
  refine⟨O.wf,O.wm,fun b o l=>?_,fun b l=>?_,fun fm ao=>?_,fun P bs aD e fm p ak R aj hx aG=>?_,fun m ai ah aD e fm p y G=>?_,fun m o y x=>?_,fun m A ca H y v bx s e=>?_,fun m ai ah aD e fm p ax P y G X hx F=>?_⟩
  ·by_cases u:hA σ ρ c b
   ·rw[oT u]at l;exact l
   ·rw[lP u]at l;exact O.fz b o l
  ·by_cases u:hA σ ρ c b
   ·rw[oT u]at l;obtain⟨i,o,d,g,n,Y⟩:=u;rw[<-Y]at l;have v:=(O.obj i o d g).1;cases o with
    |box aH=>rw[v.1.1]at l;cases l
    |row ai ah=>obtain⟨⟨_,_,A⟩,_⟩:=v;rw[A]at l;cases l
    |map ai aC=>rw[v.1]at l;cases l
    |loop bV=>obtain⟨_,A,_⟩:=v;rw[A]at l;cases l
    |eG bJ=>have A:st.get (ρ i)=some (.eG bJ):=v;rw[A]at l;cases l
    |gone=>cases g
   ·rw[lP u]at l;exact O.Ma b l
  ·rcases ao with ao|⟨i,aH,d,_,n⟩
   ·exact O.qu fm ao
   ·obtain⟨⟨⟨Q,T⟩,_⟩,_⟩:=O.obj i _ d rfl;rw[<-n];exact⟨T,O.lt d Z⟩
  ·obtain⟨bu,bb⟩:=aP P aD e fm p hx;obtain⟨bD,aI⟩:=aP bs ak R fm aj aG;by_cases aF:P=bs
   ·exact aF
   ·exfalso;rcases bb with bb|⟨i,o,d,g,n,Y⟩
    ·rcases aI with aI|⟨i,o,d,g,n,Y⟩
     ·exact aF (O.Mb P bs _ _ _ _ _ _ _ bb aI)
     ·subst Y;exact O.lJ d g bD bu aF (.inl (by rw[bb];simp)) rfl
    ·subst Y;refine O.lJ d g bu bD (fun e=>aF e.symm) ?_ Z;rcases aI with aI|⟨S,ab,Q,T,bX,bP⟩
     ·exact .inl (by rw[aI];simp)
     ·exact .inr ⟨S,ab,Q,bK T,bP⟩
  ·obtain⟨i,d,g,n⟩:=W m _ y;have G:st.get (ρ (jg c σ.length m))=some (.cells aD e fm p):=G;rw[jY d]at G;rintro(ba|⟨S,aH,t,aa,br⟩)
   ·exact O.H0 i _ _ _ _ _ _ g G ba
   ·obtain⟨⟨⟨Q,T⟩,_⟩,_⟩:=O.obj S _ t rfl;have F:ρ S≠ρ i:=fun e=>aa (by
     have:=O.inj S i _ _ t g rfl rfl e;rw[this];exact YX d)
    exact O.lJ g Z G Q F (.inr ⟨S,_,t,Z,Z⟩) br
  ·obtain⟨i,d,g,n⟩:=W m _ y;have aS:live (dH (jg c σ.length) o)=true:=by rw[h9];exact x
   obtain⟨Q,T⟩:=O.obj i _ g aS;show Fg _ _ _ _ _ (ρ (jg c σ.length m))/\(qB Φ σ ρ c st) (ρ (jg c σ.length m))=none;rw[jY d];refine⟨?_,by rw[lP (bt (YX d) g aS)];exact T⟩;have:=Q.OZ n;exact(⟨r,fun _ _=>Z,YR _⟩:hU Φ (fun m=>ρ (jg c σ.length m)) L.length (qB Φ σ ρ c st) (fun m=>ρ (jg c σ.length m)) L.length).obj Z (fun _ _ _ _ _ ba=>ba) this
  ·obtain⟨i,d,g,_⟩:=W m _ y;obtain⟨S,M,ag,_⟩:=W A _ v;have e:ρ (jg c σ.length m)=ρ (jg c σ.length A):=e;rw[jY d,jY M]at e;have:=O.inj i S _ _ g ag (by rw[h9];exact bx) (by rw[h9];exact s) e;subst this;exact bn m A i d M
  ·obtain⟨i,d,g,n⟩:=W m _ y;have G:st.get (ρ (jg c σ.length m))=some (.cells aD e fm p):=G;have F:P≠ρ (jg c σ.length m):=F;rw[jY d]at G F;obtain⟨Q,T⟩:=O.dS i _ _ _ _ _ _ ax P g G X hx F;refine⟨?_,fun ay ab bH bI=>?_⟩
   ·rw[lP]
    ·exact Q
    ·rintro⟨S,ab,t,aa,_,be⟩;exact T S ab t aa be
   ·obtain⟨S,M,ag,_⟩:=W ay _ bH;show ρ (jg c σ.length ay)≠P;rw[jY M];exact T S _ ag (by rw[h9];exact bI)
 have aT:eP (qB Φ σ ρ c st) L.length dN:=by
  rw[aE]at aW;exact(jN dN aW aR).mono r (YR _)
 obtain⟨bY,au,bA,af,N,K,B,bN,ac,z,bB,bO⟩:=bQ.go _ _ st bi aT;have aN:c.length<=(B.map (dH (jg c σ.length))).length:=by rw[YT,bp];exact ac.len
 have I:∀m,(Aw ρ K σ.length c.length) (jg c σ.length m)=K m:=by
  intro m;by_cases y:m<c.length
  ·have d:=YM y;rw[jY d];show(if c[m]<σ.length then _ else _)=_;rw[if_pos (ae _ (List.getElem_mem y))];have:=ac.rG m (by rw[<-bp];exact y);rw[this,jY d]
  ·rw[Em om];show(if σ.length+(m-c.length)<σ.length then _ else _)=_;rw[if_neg om];congr 1;omega
 have av:=Mm c σ (B.map (dH (jg c σ.length))) aN;rw[YT]at av;have aL:∀m,m<B.length->jg c σ.length m<(merge σ c (B.map (dH (jg c σ.length)))).length:=by
  intro m y;rw[av];by_cases bl:m<c.length
  ·rw[jY (YM bl)];have:=ae _ (List.getElem_mem bl);omega
  ·rw[Em om];omega
 have J:∀i o,(merge σ c (B.map (dH (jg c σ.length))))[i]?=some o->(∃m E,B[m]?=some E/\o=dH (jg c σ.length) E/\jg c σ.length m=i)∨(i<σ.length/\i ∉ c/\σ[i]?=some o):=by
  intro i o j;by_cases D:i<σ.length
  ·by_cases X:i∈c
   ·obtain⟨m,y⟩:=YY X;rw[wa c σ _ m i bk ae aN y,List.getElem?_map]at j;cases d:B[m]? with
    |none=>rw[d]at j;cases j
    |some E=>rw[d]at j;cases j;exact .inl ⟨m,E,d,rfl,jY y _⟩
   ·rw[Au c σ _ i X D]at j;exact .inr ⟨D,X,j⟩
  ·have:=Mn c σ (B.map (dH (jg c σ.length))) (i-σ.length) aN;rw[show σ.length+(i-σ.length)=i from om,j,List.getElem?_map]at this;cases d:B[c.length+(i-σ.length)]? with
   |none=>rw[d]at this;cases this
   |some E=>
    rw[d]at this;cases this;exact .inl ⟨_,E,d,Z,by rw[Em om];omega⟩
 have w:∀{i:Nat} {o:cL},σ[i]?=some o->live o=true->i ∉ c->af.get (ρ i)=st.get (ρ i)/\N (ρ i)=st.get (ρ i)/\¬N.BR (ρ i):=by
  intro i o D x X;have u:hA σ ρ c (ρ i):=⟨i,o,D,x,X,rfl⟩;obtain⟨a,t,_⟩:=pY O D x;have ao:(qB Φ σ ρ c st) (ρ i)=some a:=by rw[oT u];exact t
  have d:=ac.le.L9 _ _ ao;exact⟨by rw[z.fz _ _ d,t],by rw[d,t],fun aq=>((ac.le.BR _ _ ao).1 aq).2 u⟩
 have aA:N.CL (Av Φ N σ ρ c):=by
  intro b o l aq;have:¬hA σ ρ c b:=fun⟨i,ab,d,g,n,Y⟩=>(w d g n).2.2 (Y▸aq);exact⟨by rw[jO this];exact l,aq⟩
 have bm:Φ.le (Av Φ N σ ρ c):=by
  refine⟨fun b o l=>?_,fun b o l=>?_,fun _ O=>O⟩
  ·have:¬hA σ ρ c b:=fun u=>by rw[aJ b u]at l;cases l
   rw[jO this];exact ac.le.L9 _ _ (r.L9 _ _ l)
  ·have d:=r.L9 _ _ l;exact(ac.le.BR _ _ d).trans (r.BR _ _ l)
 have aX:hU Φ ρ σ.length (Av Φ N σ ρ c) (Aw ρ K σ.length c.length) (merge σ c (B.map (dH (jg c σ.length)))).length:=
  ⟨bm,fun i D=>if_pos D,by rw[av];omega⟩
 have az:(fun m=>(Aw ρ K σ.length c.length) (jg c σ.length m))=K:=funext I;have aB:∀{m:Nat} {o:cL},B[m]?=some o->live o=true->¬hA σ ρ c (K m):=by
  rintro m o y x ⟨i,ab,d,g,n,Y⟩;have:=(w d g n).2.1;obtain⟨a,t,_⟩:=pY O d g;rw[Y,(z.obj m o y x).2]at this;rw[Y]at t;rw[t]at this;cases this
 have bc:Real (Av Φ N σ ρ c) (Aw ρ K σ.length c.length) (merge σ c (B.map (dH (jg c σ.length)))) af:=by
  have U:∀i,i<σ.length->(Aw ρ K σ.length c.length) i=ρ i:=fun i D=>if_pos D;refine⟨z.wf,z.wm,fun b o l=>?_,fun b l=>?_,fun fm ao=>z.qu fm (ac.le.qu _ (r.qu _ ao)),fun P bs aD e fm p ak R aj hx aG=>?_,fun i ai ah aD e fm p D G=>?_,fun i o D x=>?_,fun i A bM H D v ap s e=>?_,fun i ai ah aD e fm p ax P D G X hx F=>?_⟩
  ·by_cases u:hA σ ρ c b
   ·rw[lQ u]at l;cases l
   ·rw[jO u]at l;exact z.fz b o l
  ·by_cases u:hA σ ρ c b
   ·rw[lQ u]at l;cases l
   ·rw[jO u]at l;exact z.Ma b l
  ·by_cases bj:hA σ ρ c P
   ·rw[lQ bj]at hx;cases hx
   ·by_cases bg:hA σ ρ c bs
    ·rw[lQ bg]at aG;cases aG
    ·rw[jO bj]at hx;rw[jO bg]at aG;exact z.Mb P bs _ _ _ _ _ _ _ hx aG
  ·rcases J i _ D with⟨m,E,d,g,rfl⟩|⟨d,g,n⟩
   ·cases E with
    |row bv bo=>
     rw[I]at G;intro ba;exact z.H0 m _ _ _ _ _ _ d G (ac.le.qu _ (r.qu _ ba))
    |_=>cases g
   ·rw[U i d,(w n rfl g).1]at G;exact O.H0 i _ _ _ _ _ _ n G
  ·rcases J i _ D with⟨m,E,d,rfl,rfl⟩|⟨d,g,n⟩
   ·rw[h9]at x;obtain⟨Q,T⟩:=z.obj m _ d x;rw[I];refine⟨?_,by rw[jO (aB d x)];exact T⟩;refine RN aL ?_;rw[az];exact Q.rk aA
   ·rw[U i d];obtain⟨Q,T⟩:=O.obj i _ n x;refine⟨?_,lQ ⟨i,o,n,x,g,Z⟩⟩;refine aX.Vz (w n x g).1 (fun aH e=>?_) Q;subst e;exact(z.qu _ (ac.le.qu _ (.inr ⟨i,aH,n,g,Z⟩))).1
  ·rcases J i _ D with⟨m,E,d,rfl,rfl⟩|⟨d,g,n⟩
   ·rw[h9]at ap;rcases J A _ v with⟨ay,bw,M,rfl,rfl⟩|⟨M,ag,aV⟩
    ·rw[h9]at s;rw[I,I]at e;rw[z.inj m ay _ _ d M ap s e]
    ·rw[I,U A M]at e;exact absurd ⟨A,H,aV,s,ag,e.symm⟩ (aB d ap)
   ·rcases J A _ v with⟨ay,bw,M,rfl,rfl⟩|⟨M,ag,aV⟩
    ·rw[h9]at s;rw[I,U i d]at e;exact absurd ⟨i,bM,n,ap,g,e⟩ (aB M s)
    ·rw[U i d,U A M]at e;exact O.inj i A _ _ n aV ap s e
  ·
   have bh:∀A H,(merge σ c (B.map (dH (jg c σ.length))))[A]?=some H->live H=true->(∃m E,B[m]?=some E/\live E=true/\(Aw ρ K σ.length c.length) A=K m)∨(hA σ ρ c ((Aw ρ K σ.length c.length) A)/\σ[A]?=some H/\A ∉ c/\A<σ.length):=by
    intro A H v s;rcases J A _ v with⟨m,E,d,rfl,rfl⟩|⟨d,g,n⟩
    ·rw[h9]at s;exact .inl ⟨m,E,d,s,I m⟩
    ·exact .inr ⟨by rw[U A d];exact⟨A,H,n,s,g,rfl⟩,n,g,d⟩
   rcases J i _ D with⟨m,E,d,g,rfl⟩|⟨d,g,n⟩
   ·cases E with
    |row bv bo=>
     rw[I]at G F;obtain⟨Q,T⟩:=z.dS m _ _ _ _ _ _ ax P d G X hx F;have aY:¬hA σ ρ c P:=by
      rintro⟨S,ab,t,aa,br,be⟩;have:=(w t aa br).2.1;obtain⟨a,k,_⟩:=pY O t aa;rw[be,Q]at this;rw[be]at k;rw[k]at this;cases this
     refine⟨by rw[jO aY];exact Q,fun A H v s=>?_⟩;rcases bh A H v s with⟨ay,E,k,ad,aK⟩|⟨k,_⟩
     ·rw[aK];exact T ay E k ad
     ·intro e;rw[e]at k;exact aY k
    |_=>cases g
   ·rw[U i d]at G F;have aM:=G;rw[(w n rfl g).1]at aM;have bL:∀ak R bf aj,af.get P=some (.cells ak R bf aj)->bf=fm:=fun ak R bf aj bz=>z.wm.mem fm ax P ak R bf aj X hx bz;have aw:N (ρ i)=some (.cells aD e fm p):=by rw[(w n rfl g).2.1];exact aM
    have aQ:∀{A:Nat} {H:cL},σ[A]?=some H->live H=true->st.get (ρ A)≠some .dead:=by
     intro A H v s e;have v:=(O.obj A H v s).1;cases H with
     |box aH=>rw[v.1.1]at e;cases e
     |row ai ah=>obtain⟨⟨_,_,q⟩,_⟩:=v;rw[q]at e;cases e
     |map ai aC=>rw[v.1]at e;cases e
     |loop bV=>obtain⟨_,q,_⟩:=v;rw[q]at e;cases e
     |eG bJ=>have q:st.get (ρ A)=some (.eG bJ):=v;rw[q]at e;cases e
     |gone=>cases s
    have bE:N P=none:=by
     cases bq:N P with
     |none=>rfl
     |some o=>
      exfalso;rcases z.wm.row fm ax P o X hx (z.fz _ _ bq)with R|⟨ak,R,aj,al⟩
      ·subst R;exact z.Ma P bq
      ·subst al;exact F (z.Mb P (ρ i) _ _ _ _ _ _ _ bq aw)
    refine⟨?_,fun A H v s=>?_⟩
    ·by_cases u:hA σ ρ c P
     ·exact lQ u
     ·rw[jO u];exact bE
    ·rcases bh A H v s with⟨m,E,k,ad,aK⟩|⟨k,ad,aK,bU⟩
     ·rw[aK];intro e;subst e;obtain⟨a,t,aa⟩:=pY z k ad;rcases z.wm.row fm ax _ a X hx t with R|⟨ak,R,aj,al⟩
      ·subst R;have am:=(z.obj m E k ad).1;cases E with
       |box aH=>rw[am.1.1]at t;cases t
       |row ai ah=>obtain⟨⟨_,_,q⟩,_⟩:=am;rw[q]at t;cases t
       |map ai aC=>rw[am.1]at t;cases t
       |loop bV=>obtain⟨_,q,_⟩:=am;rw[q]at t;cases t
       |eG bJ=>have q:af.get (K m)=some (.eG bJ):=am;rw[q]at t;cases t
       |gone=>cases ad
      ·subst al;exact z.lJ k (aa ⟨_,_,_,_,Z⟩) t (z.fz _ _ aw) (fun e=>F e.symm) (.inl (by rw[aw];simp)) rfl
     ·rw[U A bU];intro e;subst e;obtain⟨a,t,aa⟩:=pY O ad s;have bC:af.get (ρ A)=some a:=by rw[(w ad s aK).1];exact t
      rcases z.wm.row fm ax _ a X hx bC with R|⟨ak,R,aj,al⟩
      ·subst R;exact aQ ad s t
      ·subst al;exact O.lJ n Z aM t F (.inr ⟨A,H,ad,s,Z⟩) Z
 refine⟨bY,mf (jg c σ.length) au,bA,af,Av Φ N σ ρ c,_,_,?_,aX,bc,?_,bS au B bO ac.len⟩
 ·rw[aE,hK,bN];congr 2;cases au with
  |ret bR=>simp only[mf,eu,h8,az]
  |eE bR=>simp only[mf,eu,h8,az]
 ·cases au with
  |ret bR=>exact xE aL (eV.rk aA bB)
  |eE bR=>exact xE aL (eV.rk aA bB)
end
mutual
theorem Ax:∀v:V,gJ (fun i=>i) v=v
 |.d _=>by simp only[gJ]
 |.bp _ _=>by simp only[gJ]
 |.ptr _ _ _ _=>by simp only[gJ]
 |.fp _ _ _=>by simp only[gJ]
 |.ms _ _ _ _ _=>by simp only[gJ]
 |.map _=>by simp only[gJ]
 |.fn _ a c=>by simp only[gJ,oU a,oU c]
 |.rN _=>by simp only[gJ]
 |.iface _ v=>by simp only[gJ,Ax v]
 |.agg l=>by simp only[gJ,oU l]
 |.dV l=>by simp only[gJ,oU l]
theorem oU:∀l:List V,gU (fun i=>i) l=l
 |[]=>by simp only[gU]
 |v::l=>by simp only[gU,Ax v,oU l]
end
variable{r:dC} {j:List e8}
section
variable{C:dU} {cD:FuncId->List Value->Option Value} {Φ dx:Fz} {ρ dm:Nat->Nat} {σ:VS} {st:St} {m m':Nat}
theorem Gr{c M:Nat}{a:V}(e:eV Φ M a)(b:bd c a=true):eV Φ c a:=k1 (π:=fun i=>i) (M:=M) a (by rw[Ax];exact e) b
theorem I4{b M:Nat}{l:List V}(d:eP Φ M l)(a:e5 b l=true):eP Φ b l:=jN (π:=fun i=>i) (M:=M) l (by rw[oU];exact d) a
theorem RO(o:cL):dH (fun i=>i) o=o:=by
 cases o with
 |box m=>simp only[dH,oU]
 |row c d=>simp only[dH];congr 1;rw[YZ (g:=id) (fun e _=>oU e),List.map_id]
 |map c p=>simp only[dH];congr 1;rw[YZ (g:=id) (fun e _=>by simp only[I3,Ax];rfl),List.map_id]
 |loop n=>
  simp only[dH];have:∀a:Tm,rj (fun i=>i) a=a:=by
   intro a;induction a with
   |nil=>rfl
   |cons f a b=>obtain⟨l,q⟩:=f;simp only[rj,Ax,b]
  rw[this]
 |eG l=>rfl
 |gone=>rfl
def ln(a:Nat):VS->Nat->Bool
 |_,0=>true
 |[],_+1=>true
 |o::σ,b+1=>fG a o&&ln a σ b
theorem zp:∀{σ:VS} {c n:Nat},ln c σ n=true->∀{i:Nat} {d:cL},i<n->σ[i]?=some d->fG c d=true:=by
 intro σ;induction σ with
 |nil=>intro c n _ i d _ b;simp at b
 |cons g σ e=>
  intro c n a i d f b;cases n with
  |zero=>omega
  |succ n=>
   simp only[ln,YS]at a;cases i with
   |zero=>simp at b;subst b;exact a.1
   |succ i=>exact e (n:=n) a.2 (Nat.lt_of_succ_lt_succ f) (by simpa using b)
theorem Real.take(c:Real Φ ρ σ st){n:Nat}(H:n<=σ.length)(x:ln n σ n=true):Real Φ ρ (σ.take n) st:=by
 have b:∀i l,(σ.take n)[i]?=some l->i<n/\σ[i]?=some l:=fun i l a=>by
  rw[List.getElem?_take]at a;split at a
  ·rename_i c;exact⟨c,a⟩
  ·cases a
 have m:(σ.take n).length=n:=by rw[YP];omega
 refine⟨c.wf,c.wm,c.fz,c.Ma,c.qu,c.Mb,fun i q e D E f p a d=>c.H0 i q e D E f p (b _ _ a).2 d,fun i l a o=>?_,fun i y z F a t=>c.inj i y z F (b _ _ a).2 (b _ _ t).2,fun i q e D E f p w G a d C B u=>?_⟩
 ·obtain⟨A,v⟩:=b _ _ a;obtain⟨g,s⟩:=c.obj i l v o;refine⟨?_,s⟩;rw[m];exact Fg.OZ (π:=fun i=>i) (M:=σ.length) (by rw[RO];exact g) (zp x A v)
 ·obtain⟨g,s⟩:=c.dS i q e D E f p w G (b _ _ a).2 d C B u;exact⟨g,fun y l t o=>s y l (b _ _ t).2 o⟩
structure cP (m:Nat) (r:dC) (σ:VS) (K:dC->VS->Prop):Prop where
 go:∀Φ ρ st,Real Φ ρ σ st->An Φ σ.length r->∃r' dx dm qv,Φ.le dx/\(∀i,i<m->dm i=ρ i)/\m<=qv.length/\Real dx dm qv st/\An dx qv.length r'/\eu dm r'=eu ρ r/\K r' qv
theorem cP.now(a:Nat.ble m σ.length=true)(b:h r σ):cP m r σ h:=
 ⟨fun Φ ρ st d c=>⟨r,Φ,ρ,σ,Fz.le_refl _,fun _ _=>rfl,YO a,d,c,rfl,b⟩⟩
def O0(b:Nat):dC->Bool
 |.ret a=>bd b a
 |.eE a=>bd b a
theorem cP.drop(n:Nat)(b:Nat.ble n σ.length=true)(f:ln n σ n=true)(c:O0 n r=true)(e:cP m r (σ.take n) h):cP m r σ h:=by
 refine⟨fun Φ ρ st g d=>?_⟩;have b:=YO b;have a:(σ.take n).length=n:=by rw[YP];omega
 refine e.go Φ ρ st (g.take b f) ?_;rw[a];cases r with
 |ret i=>exact Gr (M:=σ.length) d c
 |eE i=>exact Gr (M:=σ.length) d c
mutual
def nf(i b:Nat)(l:List (List D)):V->V
 |.ms j es k len cap=>match Nat.beq j i with
  |true=>.d (.ps b (k*es) es cap ((l.drop k).take len))
  |false=>.ms j es k len cap
 |.fn f a c=>.fn f (zq i b l a) (zq i b l c)
 |.iface t v=>.iface t (nf i b l v)
 |.agg vs=>.agg (zq i b l vs)
 |.dV vs=>.dV (zq i b l vs)
 |v=>v
def zq(i b:Nat)(l:List (List D)):List V->List V
 |[]=>[]
 |v::vs=>nf i b l v::zq i b l vs
end
mutual
def sk(i En n:Nat):V->Prop
 |.ms j es k len _=>j=i->es=En/\k+len<=n
 |.fn _ a c=>wb i En n a/\wb i En n c
 |.iface _ v=>sk i En n v
 |.agg vs=>wb i En n vs
 |.dV vs=>wb i En n vs
 |_=>True
def wb(i En n:Nat):List V->Prop
 |[]=>True
 |v::vs=>sk i En n v/\wb i En n vs
end
section
variable{i b En:Nat} {l:List (List D)} {f p M:Nat}
mutual
theorem nx(hb:b=ρ i)(RP:Φ b=some (.cells (l.flatten.map cx) En f p))(hd:Φ.BR b)(hl:∀e∈l,e.length=En)(hs:∀e∈l,∀d∈e,uS Φ d):
  ∀v:V,eV Φ M v->sk i En l.length v->eV Φ M (nf i b l v)/\erase ρ (nf i b l v)=erase ρ v
 |.ms j es k len cap,hv,ho=>by
  simp only[sk]at ho;unfold nf;split
  ·rename_i hj;have:=Nat.eq_of_beq_eq_true hj;subst this;obtain⟨rfl,hlen⟩:=ho rfl;have WK:((l.drop k).take len).length=len:=by rw[YP,List.length_drop];omega
   refine⟨.d (.ps RP (fun e he=>hl e (YW (YV he))) ?_ ?_ (fun e he=>hs e (YW (YV he))) hd),?_⟩
   ·rw[WK,YT,pQ hl,<-Nat.add_mul];exact Nat.mul_le_mul_right _ hlen
   ·rw[WK,<-List.map_drop,<-List.map_take,Gi hl]
   ·simp only[erase,cx,WK,hb]
  ·exact⟨hv,Z⟩
 |.fn f' a c,hv,ho=>by
  simp only[sk]at ho;simp only[nf];cases hv with
  |fn h1 h2=>
   obtain⟨x1,x2⟩:=pZ hb RP hd hl hs a h1 ho.1;obtain⟨y1,y2⟩:=pZ hb RP hd hl hs c h2 ho.2;exact⟨.fn x1 y1,by simp only[erase,x2,y2]⟩
 |.iface t v,hv,ho=>by
  simp only[sk]at ho;simp only[nf];cases hv with
  |iface h1=>
   obtain⟨x1,x2⟩:=nx hb RP hd hl hs v h1 ho;exact⟨.iface x1,by simp only[erase,x2]⟩
 |.agg vs,hv,ho=>by
  simp only[sk]at ho;simp only[nf];cases hv with
  |agg h1=>
   obtain⟨x1,x2⟩:=pZ hb RP hd hl hs vs h1 ho;exact⟨.agg x1,by simp only[erase,x2]⟩
 |.dV vs,hv,ho=>by
  simp only[sk]at ho;simp only[nf];cases hv with
  |dV h1=>
   obtain⟨x1,x2⟩:=pZ hb RP hd hl hs vs h1 ho;exact⟨.dV x1,by simp only[erase,x2]⟩
 |.d _,hv,_=>by simp only[nf];exact⟨hv,tv⟩
 |.bp _ _,hv,_=>by simp only[nf];exact⟨hv,tv⟩
 |.ptr _ _ _ _,hv,_=>by simp only[nf];exact⟨hv,tv⟩
 |.fp _ _ _,hv,_=>by simp only[nf];exact⟨hv,tv⟩
 |.map _,hv,_=>by simp only[nf];exact⟨hv,tv⟩
 |.rN _,hv,_=>by simp only[nf];exact⟨hv,tv⟩
theorem pZ(hb:b=ρ i)(RP:Φ b=some (.cells (l.flatten.map cx) En f p))(hd:Φ.BR b)(hl:∀e∈l,e.length=En)(hs:∀e∈l,∀d∈e,uS Φ d):
  ∀vs:List V,eP Φ M vs->wb i En l.length vs->eP Φ M (zq i b l vs)/\cm ρ (zq i b l vs)=cm ρ vs
 |[],_,_=>⟨fun _ h=>by simp[zq]at h,by simp only[zq]⟩
 |v::vs,hv,ho=>by
  simp only[wb]at ho;obtain⟨x1,x2⟩:=nx hb RP hd hl hs v (hv v (Y0 ..)) ho.1;obtain⟨y1,y2⟩:=pZ hb RP hd hl hs vs (fun x hx=>hv x (YQ _ hx)) ho.2;simp only[zq];refine⟨fun x hx=>?_,by simp only[cm,x2,y2]⟩;rcases YU.1 hx with e|hx
  ·rw[e];exact x1
  ·exact y1 x hx
end
end
def uZ(i b:Nat)(l:List (List D)):dC->dC
 |.ret a=>.ret (nf i b l a)
 |.eE a=>.eE (nf i b l a)
def Uf(i En n:Nat):dC->Prop
 |.ret a=>sk i En n a
 |.eE a=>sk i En n a
theorem cP.freeze(i:Nat){n:dC}{T:dC->VS->Prop}{es:Nat}{els:List (List V)}{l:List (List D)}(g:nth σ i=some (.row es els))(u:oK els=some l)(t:Uf i es l.length n) 
  (G:∀b,cP m (uZ i b l n) (σ.set i .gone) T):cP m n σ T:=by
 refine⟨fun Φ ρ st P y=>?_⟩;rw[cv]at g;obtain⟨c,f,p,q⟩:=oQ P g;have M:=(P.obj i _ g rfl).2;have v:cm ρ els.flatten=l.flatten.map cx:=by rw[fx u,sh]
 rw[v]at q;have L:=P.freeze g q;have e:=tb (o:=fH.cells (l.flatten.map cx) es f p) M;rw[fx u]at c;obtain⟨d1,d2⟩:=c.d;have s:∀S∈l,∀K∈S,uS (mw Φ (ρ i) (.cells (l.flatten.map cx) es f p)) K:=fun S Q K z=>(d2 S Q K z).mono e;have o:(σ.set i .gone).length=σ.length:=YN;have x:∀a,eV Φ σ.length a->sk i es l.length a->eV (mw Φ (ρ i) (.cells (l.flatten.map cx) es f p)) σ.length (nf i (ρ i) l a)/\erase ρ (nf i (ρ i) l a)=erase ρ a:=
  fun a I C=>nx (Φ:=mw Φ (ρ i) (.cells (l.flatten.map cx) es f p)) (f:=f) (p:=p) rfl (by rw[kh];exact if_pos rfl) (Or.inl rfl) d1 s a (I.mono e (YR _)) C
 have d:An (mw Φ (ρ i) (.cells (l.flatten.map cx) es f p)) (σ.set i .gone).length (uZ i (ρ i) l n)/\eu ρ (uZ i (ρ i) l n)=eu ρ n:=by
  rw[o];cases n with
  |ret a=>obtain⟨F,b⟩:=x a y t;exact⟨F,by simp only[uZ,eu,b]⟩
  |eE a=>obtain⟨F,b⟩:=x a y t;exact⟨F,by simp only[uZ,eu,b]⟩
 obtain⟨B,dx,dm,w,N,J,O,R,A,H,E⟩:=(G (ρ i)).go _ ρ st L d.1;exact⟨B,dx,dm,w,e.trans N,J,O,R,A,by rw[H];exact d.2,E⟩
theorem cA(t:Nat->Bool){f:FuncId}{a:List V}(b:∀l,cD f l=none)(u:Ap C cD t f a false .none σ fun G _ d=>cP σ.length G d h):b1 C cD f a σ h:=by
 refine⟨fun Φ ρ st I D=>?_⟩;obtain⟨H,G,n,dx,dm,d,c,A,m,B,E,_,q⟩:=sj u I D trivial;obtain⟨s,g,e,o,y,v,F,x,z,p,w⟩:=q.go dx dm c B E;refine⟨H+1,s,c4 dm n,c,g,e,o,?_,⟨m.le.trans y,fun i b=>(v i b).trans (m.rG i b),F⟩,x,z,w⟩;simp only[iS,b];rw[p];exact A
def Eo(b:Nat):List e8->Bool
 |[]=>true
 |⟨.DT d,a⟩::l=>Nat.blt d b&&e5 b a&&Eo b l
 |⟨.fn _ c,a⟩::l=>e5 b c&&e5 b a&&Eo b l
theorem KQ{m M:Nat}:∀{l:List e8},Eo m l=true->(∀c∈l,F7 Φ M c)->∀c∈l,F7 Φ m c:=by
 intro l;induction l with
 |nil=>intro _ _ c e;simp at e
 |cons n l g=>
  intro b e c a;obtain⟨o,i⟩:=n;have d:=e _ (Y0 ..);cases o with
  |DT q=>
   simp only[Eo,YS]at b;rcases YU.1 a with rfl|a
   ·exact⟨gi b.1.1,I4 d.2 b.1.2⟩
   ·exact g b.2 (fun c a=>e c (YQ _ a)) c a
  |fn f p=>
   simp only[Eo,YS]at b;rcases YU.1 a with rfl|a
   ·exact⟨I4 (show eP Φ M p from d.1) b.1.1,I4 d.2 b.1.2⟩
   ·exact g b.2 (fun c a=>e c (YQ _ a)) c a
def RQ(a:Nat):lm->Bool
 |.fu b=>bd a b
 |_=>true
theorem cl.drop(n:Nat){f:s7}{c:Code}{p d:Tm}{e:lm}{B:zk->Tm->List e8->lm->VS->Prop}(A:nU d p)(g:Nat.ble n σ.length=true)(m:Nat.ble f.fl n=true)(v:ln n σ n=true)(t:At n d=true)(l:Eo n j=true)(o:RQ n e=true) 
  (F:cl C cD f c d j e (σ.take n) B):cl C cD f c p j e σ B:=by
 refine⟨fun Φ ρ st w z s i x y=>?_⟩;have g:=YO g;have a:(σ.take n).length=n:=by rw[YP];omega
 refine F.go Φ ρ st w (z.take g v) (fun D u q=>?_) ⟨i.1,?_⟩ ?_ ⟨y.1,by rw[a];exact YO m⟩
 ·obtain⟨E,b⟩:=s D u (nV A D u q);rw[a];exact⟨E,Gr b (xF t q)⟩
 ·rw[a];exact KQ l i.2
 ·rw[a];cases e with
  |fu u=>exact Gr (M:=σ.length) x o
  |none=>trivial
  |pG=>trivial
theorem xG:∀(f:List Tmp) (a:List V) (d:Nat) {e:Tm} {n:Tr Value} {o:Tm->Prop},qy f a d e o->gD Φ ρ m e n->eP Φ m a->∃c g,o c/\lF f (cm ρ a) d n=some g/\gD Φ ρ m c g:=by
 intro f;induction f with
 |nil=>
  intro a d e n o b i l;cases a with
  |nil=>exact⟨e,n,b,rfl,i⟩
  |cons _ _=>exact b.elim
 |cons y f v=>
  intro a d e n o b i l;cases a with
  |nil=>exact b.elim
  |cons w a=>
   unfold qy at b;split at b
   ·rename_i q;obtain⟨c,g,s,p,u⟩:=v a d b (i.set (l w sm)) (fun x t=>l x (by simp[t]));exact⟨c,g,s,by simp only[lF,cm,q];exact p,u⟩
   ·exact b.elim
theorem mz{l:Nat}{b:Bool}{s:LoopState}{fu:Option Code}(c:pV l b s fu j σ h)(n:Real Φ ρ σ st){f:List Deferred}(m:Ae Φ ρ σ.length j f):
  ∃d e,st.get (ρ l)=some (.loop d)/\f=[]/\h (.ret (.d (.bool b))) e/\e.length=σ.length/\Real Φ ρ e (st.put (ρ l) (.loop {d with state:=s,pending:=fu})):=by
 unfold pV at c;split at c
 ·rename_i p g;rw[cv]at g;obtain⟨⟨d,i,a⟩,_⟩:=n.obj l _ g rfl;obtain⟨_,c⟩:=jM _ _ _ _ c;refine⟨d,_,i,m.1,c,iy _ _,n.put g Z Z Z (fun _ _ _ _ o=>by cases o) ⟨{d with state:=s,pending:=fu},by rw[cW,if_pos rfl],⟨rfl,rfl,a.fn,a.tm,a.nt,a.params,a.assign,a.body,a.defers,a.fF⟩⟩⟩
 ·exact c.elim
theorem gT.intro{l:Nat}{d:List V}{aH:dC->VS->Prop}(o:OX C cD l d σ aH):gT C cD l d σ aH:=by
 refine⟨fun Φ ρ st au aB k=>?_⟩;unfold OX KN at o;split at o
 ·rename_i A ak;rw[cv]at ak;obtain⟨⟨c,ac,e⟩,_⟩:=au.obj l _ ak rfl;split at o
  ·exact o.elim
  ·rename_i az ap;obtain⟨aK,aJ,o,h,an⟩:=xG A.params d A.nt o e.tm aB;have O:uW σ.length ⟨A.fn,A.nt,some l,false,A.fz,σ.length⟩:=⟨fun aL ax=>by cases ax;exact k,YR _⟩;obtain⟨L,aN,ay,ah,B,ag,aj,aC,am,aq,aF,ai,g,X,N,aM,rfl⟩:=pX A.assign o (fr:=⟨aJ,[]⟩) ⟨au,an,⟨rfl,fun _ au=>by simp at au⟩,tv⟩ O;cases aC with
   |norm=>
    simp only at g;split at g
    ·rename_i ab E;rw[cv]at E;obtain⟨⟨y,G,b⟩,_⟩:=N.real.obj l _ E rfl;split at g
     ·rename_i D;obtain⟨_,g⟩:=jM _ _ _ _ g;have Q:B l=ρ l:=X.rG l k;have r:=N.real.put (o':=.loop {ab with state:=.busy}) (a:=.loop {y with state:=.busy}) E rfl rfl rfl (fun _ _ _ _ ax=>by cases ax)
       ⟨{y with state:=.busy},by rw[cW,if_pos rfl],⟨rfl,b.pending,b.fn,b.tm,b.nt,b.params,b.assign,b.body,b.defers,b.fF⟩⟩
      have ae:SR ah B (ag.set l (.loop {ab with state:=.busy})) (aj.put (B l) (.loop {y with state:=.busy})) am aq .none ai:=⟨r,by rw[iy];exact N.tm,by rw[iy];exact N.df,tv⟩;have I:=(X.I0 O);obtain⟨M,aO,aa,n,f,S,R,W,aI,af,aG,P,z,ao,m,aE,rfl⟩:=pX A.body g ae (by rw[iy];exact I.2);rw[I.1]at aa;have u:f l=ρ l:=(ao.rG l k).trans Q;have v:hU Φ ρ σ.length n f S.length:=X.then ao (YR _);have x:=gG (gP (C:=C) (cD:=cD) (Nat.le_max_left L M)) _ ay;have p:=gG (gP (C:=C) (cD:=cD) (Nat.le_max_right L M)) _ aa;have U:ea ρ ⟨A.fn,A.nt,some l,false,A.fz,σ.length⟩=⟨c.fn,c.nt,some (ρ l),false⟩:=by rw[e.fn,e.nt];rfl
      rw[U]at x p;rw[Q]at p G;have aw:A.assign=c.assign:=e.assign.symm;have aA:A.body=c.body:=e.body.symm;rw[aw]at x;rw[aA]at p;have K:lF c.params (cm ρ d) c.nt c.tm=some aJ:=by rw[e.params,e.nt];exact h
      have j:C.ff.get c.fn=some az:=by rw[e.fn];exact ap
      have Y:y.state=.ready:=by rw[b.state];exact D
      have w:∀av,(match(generalizing:=false) eh f W,P,R with
        |.norm,q,st=>match st.get (ρ l),q.df with
         |some (.loop c),[]=>some (CR.ret (.bool true),st.put (ρ l) (.loop {c with state:=.ready,pending:=none}))
         |_,_=>none
        |.ret,q,st=>match st.get (ρ l),q.df with
         |some (.loop c),[]=>some (.ret (.bool false),st.put (ρ l) (.loop {c with state:=.done,pending:=some .ret}))
         |_,_=>none
        |.exit id,q,st=>match st.get (ρ l),q.df with
         |some (.loop c),[]=>some (.ret (.bool false),st.put (ρ l) (.loop {c with state:=.done,pending:=some (.exit id)}))
         |_,_=>none
        |.panic aD,q,st=>match q.df with
         |[]=>some (.eE aD,st)
         |_=>none)=some av->(iS C cD (max L M+1)).round (ρ l) (cm ρ d) st=some av:=by
       intro av ar;show rX C (iS C cD (max L M)) (ρ l) (cm ρ d) st=some av;unfold rX;simp only[c4,eh]at x;simp only[c4]at p;simp only[ac,j,K,x,G,Y,p];cases W<;>simp only[eh]at ar⊢ <;>exact ar
      cases W with
      |norm=>
       obtain⟨T,i,t,H,J,F,s⟩:=mz z m.real m.df;rw[u]at t s;exact⟨_,.ret (.d (.bool true)),_,n,f,i,w _ (by simp only[eh,t,H];rfl),by rw[F];exact v,s,.d (.bool _),J⟩
      |ret=>
       obtain⟨T,i,t,H,J,F,s⟩:=mz z m.real m.df;rw[u]at t s;exact⟨_,.ret (.d (.bool false)),_,n,f,i,w _ (by simp only[eh,t,H];rfl),by rw[F];exact v,s,.d (.bool _),J⟩
      |exit id=>
       obtain⟨T,i,t,H,J,F,s⟩:=mz z m.real m.df;rw[u]at t s;exact⟨_,.ret (.d (.bool false)),_,n,f,i,w _ (by simp only[eh,t,H];rfl),by rw[F];exact v,s,.d (.bool _),J⟩
      |panic aD=>
       simp only at z;cases af with
       |nil=>
        have ad:P.df=[]:=m.df.1;exact⟨_,.eE aD,R,n,f,S,w _ (by simp only[eh,ad];rfl),v,m.real,aE,z⟩
       |cons _ _=>exact z.elim
     ·exact g.elim
    ·exact g.elim
   |_=>exact g.elim
 ·exact o.elim
theorem b1.run{f:FuncId}{args:List D}(a:b1 C cD f (args.map V.d) [] h)(y:∀Φ,∀v∈args,uS Φ v):
  ∃w q e d dm g,(iS C cD w).call f (args.map cx) false .none ⟨.nil,0,.nil⟩=some (eu dm q,e,d)/\h q g:=by
 have c:∀m,(⟨.nil,0,.nil⟩:St).get m=none:=fun m=>nI m;have l:∀m,(⟨.nil,0,.nil⟩:St).fm.get m=none:=fun m=>nI m;have x:Real ⟨fun _=>none,fun _=>False,fun _=>False⟩ (fun _=>0) [] ⟨.nil,0,.nil⟩:=by
  refine⟨⟨fun b u a=>?_,fun b H I f p a=>?_,fun f n a=>?_⟩,⟨fun f n m a=>?_,fun f n m u a=>?_⟩,fun b u a=>(by cases a),fun b a=>(by cases a),fun f a=>a.elim,fun m G _ _ _ _ _ _ _ a=>(by cases a),fun i _ _ _ _ _ _ a=>(by simp at a),fun i u a=>(by simp at a),fun i F A B a=>(by simp at a),fun i _ _ _ _ _ _ _ _ a=>(by simp at a)⟩
  ·rw[c]at a;cases a
  ·rw[c]at a;cases a
  ·rw[l]at a;cases a
  ·rw[l]at a;cases a
  ·rw[l]at a;cases a
 obtain⟨w,q,e,d,dx,dm,g,o,_,_,_,t⟩:=a.go _ _ _ x (fun E z=>by obtain⟨v,s,rfl⟩:=List.mem_map.1 z;exact .d (y _ v s));rw[mc]at o;exact⟨w,q,e,d,dm,g,o,t⟩
end
end Go.VM
