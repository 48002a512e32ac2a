/- Part of the proof. -/
import Derived.Test.YtpejealjkmhkgaaGreatDoorKAf
set_option linter.all false
set_option maxHeartbeats 16000000
set_option maxRecDepth 100000
open Bool renaming and_eq_true->YL,or_eq_true->YR,not_eq_true'->YZ
open List renaming mem_cons->YM,all_eq_true->YQ,mem_filter->YT,mem_append->YU,mem_erase_of_ne->YW,range->YY,length_erase_of_mem->Y1
open Array renaming getElem?_eq_getElem->YN,getD_eq_getD_getElem?->YO,getElem?_toList->YV,getElem?_eq_none->Y2
open Nat renaming eq_of_beq_eq_true->YP,beq_eq->YS,testBit->YX,blt_eq->Y0,le_of_ble_eq_true->Y3
namespace Go.AM
open Go.RowKit (Below)
theorem RA{f b:Fn}(c:Oe f b=true):f=b:=by
 cases f<;>cases b<;>simp[Oe]at c<;>rw[c]
theorem Cz{f b:Addr}(c:addrEq f b=true):f=b:=by
 obtain⟨o,m,s⟩:=f;obtain⟨l,h,e⟩:=b;simp only[addrEq,YL,YS]at c;obtain⟨⟨rfl,rfl⟩,c⟩:=c;cases s<;>cases e<;>simp at c⊢
theorem FN{e b:ByteArray}(c:nC e b=true):e=b:=by
 rw[nC,oG,beq_iff_eq]at c;apply ByteArray.ext;exact Array.ext' c
mutual
theorem qo:∀(a b:Value),lp a b=true->a=b
 |.func f ⟨x⟩ ⟨y⟩,b,h=>by
  cases b<;>first|(simp[lp]at h;done)|skip
  rename_i f' x' y';obtain⟨x'⟩:=x';obtain⟨y'⟩:=y';simp only[lp,YL]at h;rw[RA h.1.1,s6 x x' h.1.2,s6 y y' h.2]
 |.iface t v,b,h=>by
  cases b<;>first|(simp[lp]at h;done)|skip
  rename_i t' v';simp only[lp,YL,YS]at h;rw[h.1,qo v v' h.2]
 |.agg ⟨x⟩,b,h=>by
  cases b<;>first|(simp[lp]at h;done)|skip
  rename_i x';obtain⟨x'⟩:=x';simp only[lp]at h;rw[s6 x x' h]
 |.tuple ⟨x⟩,b,h=>by
  cases b<;>first|(simp[lp]at h;done)|skip
  rename_i x';obtain⟨x'⟩:=x';simp only[lp]at h;rw[s6 x x' h]
 |.bool a,b,h=>by
  cases b<;>first|(simp[lp]at h;done)|(simp[lp]at h;rw[h])
 |.int k a,b,h=>by
  cases b<;>first|(simp[lp]at h;done)|skip
  simp only[lp,YL]at h;rw[ql.1 h.1,zM.1 h.2]
 |.string a,b,h=>by
  cases b<;>first|(simp[lp]at h;done)|skip
  simp only[lp]at h;rw[FN h]
 |.pointer none,b,h=>by
  cases b<;>first|(simp[lp]at h;done)|skip
  rename_i q;cases q<;>first|rfl|(simp[lp]at h;done)
 |.pointer (some a),b,h=>by
  cases b<;>first|(simp[lp]at h;done)|skip
  rename_i q;cases q<;>first|(simp[lp]at h;done)|(simp only[lp]at h;rw[Cz h])
 |.slice none l c,b,h=>by
  cases b<;>first|(simp[lp]at h;done)|skip
  rename_i q l' c';cases q<;>first|(simp[lp]at h;done)|skip
  simp only[lp,YL,YS]at h;rw[h.1,h.2]
 |.slice (some a) l c,b,h=>by
  cases b<;>first|(simp[lp]at h;done)|skip
  rename_i q l' c';cases q<;>first|(simp[lp]at h;done)|skip
  simp only[lp,YL,YS]at h;rw[Cz h.1.1,h.1.2,h.2]
 |.map none,b,h=>by
  cases b<;>first|(simp[lp]at h;done)|skip
  rename_i q;cases q<;>first|rfl|(simp[lp]at h;done)
 |.map (some a),b,h=>by
  cases b<;>first|(simp[lp]at h;done)|skip
  rename_i q;cases q<;>first|(simp[lp]at h;done)|(simp only[lp,YS]at h;rw[h])
 |.nilFunc,b,h=>by cases b<;>first|rfl|(simp[lp]at h;done)
 |.nilIface,b,h=>by cases b<;>first|rfl|(simp[lp]at h;done)
 |.float k x,b,h=>by cases b<;>(simp[lp]at h;done)
 |.complex k x y,b,h=>by cases b<;>(simp[lp]at h;done)
 |.chan r,b,h=>by cases b<;>(simp[lp]at h;done)
theorem s6:∀(a b:List Value),xh a b=true->a=b
 |[],[],_=>rfl
 |x::a,y::b,h=>by
  simp only[xh,YL]at h;rw[qo x y h.1,s6 a b h.2]
 |[],_::_,h=>by simp[xh]at h
 |_::_,[],h=>by simp[xh]at h
end
theorem vK:∀{m b:List MapEntry},ns m b=true->m=b
 |[],[],_=>rfl
 |x::m,o::b,c=>by
  simp only[ns,Kr,YL,YS]at c;obtain⟨⟨⟨f,e⟩,h⟩,l⟩:=c;obtain⟨u,v,t⟩:=x;obtain⟨s,q,p⟩:=o;rw[vK l];simp only at f e h;rw[qo _ _ f,qo _ _ e,h]
 |[],_::_,c=>by simp[ns]at c
 |_::_,[],c=>by simp[ns]at c
theorem FO{e b:fH}(c:rW e b=true):e=b:=by
 cases e<;>cases b<;>first|(simp[rW]at c;done)|skip
 ·simp only[rW,YL,YS]at c;rw[s6 _ _ c.1.1.1,c.1.1.2,c.1.2,c.2]
 ·simp only[rW,YL,YS]at c;rw[vK c.1,c.2]
 ·simp only[rW,YL,YS]at c;rw[FN c.1,c.2]
section
variable{C:dU} {ev BI:Operand->Option Value} {st:St}
theorem mZ:∀{xs:List Operand},(∀b∈xs,ev b=BI b)->lD ev xs=lD BI xs:=by
 intro xs;induction xs with
 |nil=>intro _;rfl
 |cons b xs c=>intro f;simp only[lD];rw[f b sm,c (fun h e=>f h (by simp[e]))]
theorem ug:∀{b:List (Nat×Operand)},(∀c∈b.map (·.2),ev c=BI c)->kQ ev b=kQ BI b:=by
 intro b;induction b with
 |nil=>intro _;rfl
 |cons c b f=>obtain⟨m,c⟩:=c;intro h;simp only[kQ];rw[h c sm,f (fun l e=>h l (by simp at e⊢;exact .inr e))]
theorem xm(o:Oper)(e:∀f∈o.op.operands,ev f=BI f):h0 C ev o st=h0 C BI o st:=by
 unfold h0;split
 case h_31=>rfl
 case h_4=>rfl
 case h_16=>rfl
 all_goals (rename_i t;rw[t]at e;simp only[Op.operands]at e)
 case h_30 f=>rw[e f sm]
 case h_6=>rw[ug (ev:=ev) (BI:=BI) (fun f c=>e f (by simpa using c))]
 case h_7=>rw[ug (ev:=ev) (BI:=BI) (fun f c=>e f (by simpa using c))]
 case h_15 B b=>rw[mZ (ev:=ev) (BI:=BI) (xs:=B.toList) (fun f c=>e f (by simp;exact .inl (by simpa using c))),mZ (ev:=ev) (BI:=BI) (xs:=b.toList) (fun f c=>e f (by simp;exact .inr (by simpa using c)))]
 case h_18 f w v u=>
  have x:=e f sm;have E:∀h,w=some h->ev h=BI h:=fun h l=>e h (by subst l;simp);have D:∀h,v=some h->ev h=BI h:=fun h l=>e h (by subst l;simp);have F:∀h,u=some h->ev h=BI h:=fun h l=>e h (by subst l;simp);rw[x];cases w<;>cases v<;>cases u<;>simp_all
 case h_28 A=>
  simp only[Call.operands]at e;rw[mZ (ev:=ev) (BI:=BI) (xs:=A.args.toList) (fun f c=>e f (by simp;exact .inr (by simpa using c)))];split
  ·rfl
  ·split
   ·rfl
   ·rename_i y q;rw[e y (by rw[q];simp)]
   ·rfl
 case h_29 A=>
  simp only[Call.operands]at e;rw[mZ (ev:=ev) (BI:=BI) (xs:=A.args.toList) (fun f c=>e f (by simp;exact .inr (by simpa using c)))];split
  ·rename_i y _ q;rw[e y (by rw[q];simp)]
  ·rfl
 all_goals first
  |rfl
  |(simp at e;simp only[e];done)
  |(simp at e;obtain⟨p,m⟩:=e;simp only[p,m];done)
  |(simp at e;obtain⟨p,m,z⟩:=e;simp only[p,m,z];done)
end
inductive Iu (ops:Array Oper):(Nat->Bool)->List Nat->Prop
 |nil {D:Nat->Bool} (h:∀i,i<ops.size->D i=true):Iu ops D []
 |cons {D:Nat->Bool} {i:Nat} {L:List Nat} {o:Oper} (ho:ops[i]?=some o) (hn:D i=false) (he:∀e∈o.after.toList,Region.binds .any e=true->D e.on=true) (t:Iu ops (fun x=>D x||x==i) L):Iu ops D (i::L)
def xn(ops:Array Oper):Prop:=∀(e:Nat) (c:Oper),ops[e]?=some c->∀b∈c.after.toList,Region.binds .any b=true->b.on<e
theorem LZ{p q:Nat->Bool}:∀(c:List Nat),(∀l∈c,q l=true->p l=true)->∀o∈c,p o=true->q o=false->c.countP q<c.countP p:=by
 intro c;induction c with
 |nil=>intro _ o b;simp at b
 |cons l c t=>
  intro u o b h m;have v:c.countP q<=c.countP p:=List.countP_mono_left fun s e=>u s (by simp[e]);rcases YM.1 b with rfl|b
  ·rw[List.countP_cons_of_neg (by simp[m]),List.countP_cons_of_pos h];omega
  ·have:=t (fun s e=>u s (by simp[e])) o b h m;simp only[List.countP_cons];by_cases f:q l=true
   ·rw[if_pos f,if_pos (u l sm f)];omega
   ·rw[if_neg f];omega
theorem T4{ops:Array Oper}(L:xn ops):∀(e I:Nat) (listed:Array Bool) (l:List Nat),listed.size=ops.size->(YY ops.size).countP (fun b=> !listed.getD b false)<=e->
  ∃K,Region.linearise.go .any ops e I listed l=l.reverse++K/\Iu ops (fun x=>listed.getD x false) K:=by
 intro e;induction e with
 |zero=>
  intro I listed l F P;refine⟨[],by simp[Region.linearise.go],.nil fun b c=>?_⟩;have E:(YY ops.size).countP (fun b=> !listed.getD b false)=0:=om;rw[List.countP_eq_zero]at E;have:=E b (by simpa using c);simpa using this
 |succ e N=>
  intro I listed l F P;simp only[Region.linearise.go];generalize z:(YY ops.size).filter (fun b=> !listed.getD b true&&((ops[b]?).map (·.after.all fun J=> !Region.binds .any J||listed.getD J.on false)).getD false)=m;have y:∀b,b<ops.size->listed.getD b true=listed.getD b false:=by
   intro b c;simp[YO,YN (by omega:b<listed.size)]
  cases p:m[I%m.length]? with
  |none=>
   have t:m=[]:=by
    cases m with
    |nil=>rfl
    |cons Q S=>
     rw[List.getElem?_eq_getElem (Nat.mod_lt _ sm)]at p;cases p
   refine⟨[],by simp,.nil fun b=>?_⟩;induction b using Nat.strongRecOn with
   |_ b H=>
    intro c;cases w:listed.getD b false with
    |true=>rfl
    |false=>
     exfalso;have f:b∈m:=by
      rw[<-z,YT];refine⟨by simpa using c,?_⟩;rw[y b c,w,YN c];simp only[Bool.not_false,Option.map_some,Option.getD_some,Bool.true_and];rw[Array.all_eq_true];intro G s;cases q:Region.binds .any ops[b].after[G]with
      |false=>rfl
      |true=>
       have D:=L b ops[b] (YN c) ops[b].after[G] sm q;rw[H _ D om];rfl
     rw[t]at f;simp at f
  |some b=>
   have f:b∈m:=List.mem_of_getElem? p;rw[<-z,YT]at f;obtain⟨c,h⟩:=f;have c:b<ops.size:=by simpa using c
   rw[y b c,YN c]at h;simp only[Option.map_some,Option.getD_some,YL,YZ]at h;obtain⟨w,v⟩:=h;rw[Array.all_eq_true]at v;have o:∀x,(listed.setIfInBounds b true).getD x false=(listed.getD x false||x==b):=by
    intro x;by_cases C:x=b
    ·subst C;simp[YO,Array.getElem?_setIfInBounds_self_of_lt (by omega:x<listed.size)]
    ·simp[YO,Array.getElem?_setIfInBounds_ne (fun J=>C J.symm),C]
   have u:(YY ops.size).countP (fun x=> !(listed.setIfInBounds b true).getD x false)<=e:=by
    have:=LZ (p:=fun x=> !listed.getD x false) (q:=fun x=> !(listed.setIfInBounds b true).getD x false) (YY ops.size) (fun x _ s=>by
     rw[o]at s;simp at s⊢;exact s.1) b (by simpa using c) (by simp[w]) (by rw[o];simp)
    omega
   obtain⟨K,M,A⟩:=N (I/m.length) (listed.setIfInBounds b true) (b::l) (by simp[F]) u;refine⟨b::K,by simp only;rw[M];simp,.cons (YN c) w (fun J O q=>?_) ?_⟩
   ·obtain⟨G,s,rfl⟩:=List.getElem_of_mem O;have:=v G (by simpa using s);simp only[Array.getElem_toList]at q⊢;rw[q]at this;simpa using this
   ·have B:(fun x=>(listed.setIfInBounds b true).getD x false)=(fun x=>listed.getD x false||x==b):=funext o;rw[<-B];exact A
theorem DD{ops:Array Oper}(l:xn ops)(t:Nat):Iu ops (fun _=>false) (Region.schedule true ops t):=by
 have e:Region.schedule true ops t=Region.linearise .any ops t:=by simp[Region.schedule]
 rw[e];obtain⟨o,m,c⟩:=T4 l ops.size t (Array.replicate ops.size false) [] sm (by
  refine Nat.le_trans (List.countP_le_length) sm)
 have:Region.linearise .any ops t=o:=by simpa [Region.linearise]using m
 rw[this];have b:(fun h=>(Array.replicate ops.size false).getD h false)=(fun _=>false):=by
  funext h;by_cases f:h<ops.size
  ·simp[YO,f]
  ·simp[YO,f]
 rw[<-b];exact c
structure h7 (ops:Array Oper) (bs:List Nat) (m:Nat) (order:List Nat):Prop where
 back:xn ops
 bits:∀(i:Nat) (o:Oper),ops[i]?=some o->∀j,iG bs i j=true->∃e∈o.after.toList,Region.binds .any e=true/\(e.on=j∨iG bs e.on j=true)
 Yf:m<=ops.size
 all:∀i,i<m->i∈order
 lt:∀i,i∈order->i<m
 nodup:order.Nodup
 later:∀pre e post,order=pre++e::post->hW ops.toList e=true->∀i∈post,iG bs i e=true
 reads:∀(j:Nat) (oj:Oper) (t:Tmp),ops[j]?=some oj->fM oj.op=false->oj.dst=some t->∀(i:Nat) (oi:Oper),ops[i]?=some oi->t∈oC ops.toList oi->iG bs i j=true
 tail:∀(i:Nat) (o:Oper),m<=i->ops[i]?=some o->Fk o.op=true/\o.guard=none/\∀j,j<m->iG bs i j=true
variable{a:Nat}
theorem DE{bs:List Nat}:∀(m:List Edge) (s:Nat),YX (m.foldl (fun s c=>match Region.binds .any c with|true=>Nat.lor (Nat.lor s (2^c.on)) (match nth bs c.on with|some b=>b|none=>0)|false=>s) s) a=true->
  YX s a=true∨∃c∈m,Region.binds .any c=true/\(c.on=a∨iG bs c.on a=true):=by
 intro m;induction m with
 |nil=>intro s h;exact .inl h
 |cons c m p=>
  intro s h;simp only[List.foldl_cons]at h;rcases p _ h with h|⟨t,o,e,q⟩
  ·cases e:Region.binds .any c with
   |false=>rw[e]at h;exact .inl h
   |true=>
    rw[e]at h;simp only at h;have f:((s|||2^c.on)|||(match nth bs c.on with|some b=>b|none=>0)).testBit a=true:=h;rw[Nat.testBit_or,Nat.testBit_or,YR,YR]at f;rcases f with(h|h)|h
    ·exact .inl h
    ·rw[Nat.testBit_two_pow]at h;exact .inr ⟨c,by simp,e,.inl (by simpa using h)⟩
    ·refine .inr ⟨c,by simp,e,.inr ?_⟩;unfold iG;cases l:nth bs c.on with
     |none=>rw[l]at h;simp at h
     |some b=>rw[l]at h;exact h
  ·exact .inr ⟨t,by simp[o],e,q⟩
theorem DF{ops:List Oper}{bs:List Nat}:∀{o:List Nat},zf ops bs o=true->∀c h b,o=c++h::b->hW ops h=true->∀p∈b,iG bs p h=true:=by
 intro o;induction o with
 |nil=>intro _ c h b l;simp at l
 |cons t o q=>
  intro l c h b e f p m;simp only[zf,YL,YR,YZ,YQ]at l;cases c with
  |nil=>
   simp at e;obtain⟨rfl,rfl⟩:=e;rcases l.1 with h1|h1
   ·rw[h1]at f;cases f
   ·exact h1 p m
  |cons s c=>
   simp at e;obtain⟨rfl,rfl⟩:=e;exact q l.2 c h b Z f p m
theorem any_beq{l:List Nat}:l.any (Nat.beq a)=true↔a∈l:=by
 rw[List.any_eq_true];constructor
 ·rintro⟨e,c,b⟩;rw[YP b];exact c
 ·intro b;exact⟨a,b,Nat.beq_refl a⟩
theorem zV:∀{m:Nat} {c:List Nat},(∀b,b<m->b∈c)->c.length=m->c.Nodup:=by
 intro m c A D;have:∀(e:Nat) (c:List Nat),c.length<=e->(∀b,b<e->b∈c)->c.Nodup:=by
  intro e;induction e with
  |zero=>intro c w _;cases c with|nil=>simp|cons _ _=>simp at w
  |succ e C=>
   intro c w u;have h:=u e om;have z:(c.erase e).length<=e:=by rw[Y1 h];omega
   have y:=C (c.erase e) z (fun b s=>by
    rw[YW om];exact u b om)
   have q:e ∉ c.erase e:=by
    intro v;have t:∀b,b<e+1->b∈c.erase e:=by
     intro b s;by_cases A:b=e
     ·subst A;exact v
     ·rw[YW A];exact u b s
    have:∀(o:Nat) (f:List Nat),(∀b,b<o->b∈f)->o<=f.length:=by
     intro o;induction o with
     |zero=>intro f _;omega
     |succ o x=>
      intro f p;have:=x (f.erase o) (fun b s=>by rw[YW om];exact p b om);rw[Y1 (p o om)]at this;have B:0<f.length:=List.length_pos_of_mem (p o om);omega
    have:=this (e+1) _ t;omega
   have l:=List.perm_cons_erase h;exact l.nodup_iff.2 (List.nodup_cons.2 ⟨q,y⟩)
 exact this m c om A
theorem FP{ops:Array Oper}(h:Dp ops.toList=true):h7 ops (pK ops.toList).bs (pK ops.toList).m (pK ops.toList).order:=by
 unfold Dp at h;simp only[YL]at h;obtain⟨⟨⟨⟨⟨⟨⟨⟨D,B⟩,M⟩,C⟩,E⟩,N⟩,L⟩,x⟩,y⟩:=h;have c:∀(e:Nat) (z:Oper),ops[e]?=some z->nth ops.toList e=some z/\e<ops.toList.length:=by
  intro e z f;rw[cv,YV];refine⟨f,?_⟩;rcases Nat.lt_or_ge e ops.size with h|h
  ·simpa using h
  ·rw[Y2 h]at f;cases f
 rw[YQ]at D B C E;have s:∀e,e<(pK ops.toList).m->e∈(pK ops.toList).order:=fun e q=>any_beq.1 (C e (by simpa using q));refine⟨fun e z f U O v=>?_,fun e z f w o=>?_,by simpa using Y3 M,s,fun e q=>Y0.mp (E e q),zV s (YP N),DF L,fun w V W o A J e S q K=>?_,fun e z P f=>?_⟩
 ·obtain⟨m,l⟩:=c _ _ f;have:=D e (by simpa using l);rw[m]at this;simp only[YQ]at this;have:=this U O;rw[v]at this;exact Y0.mp (by simpa using this)
 ·obtain⟨m,l⟩:=c _ _ f;have:=B e (by simpa using l);rw[m]at this;split at this
  ·rename_i T Q F H;cases F;have I:=YP this;unfold iG at o;rw[H]at o;simp only at o;rw[I]at o;rcases DE _ _ o with h|h
   ·simp at h
   ·exact h
  ·cases this
 ·obtain⟨m,l⟩:=c _ _ o;obtain⟨f1,f2⟩:=c _ _ q;unfold Ks at x;rw[YQ]at x;have:=x w (by simpa using l);rw[m]at this;simp only[A,Bool.false_or,J,YQ]at this;have:=this e (by simpa using f2);rw[f1]at this;simp only[YR,YZ]at this;rcases this with h|h
  ·rw[any_beq.2 K]at h;cases h
  ·exact h
 ·obtain⟨m,l⟩:=c _ _ f;unfold zI at y;rw[YQ]at y;have:=y (e-(pK ops.toList).m) (by simp at l⊢;omega);rw[show(pK ops.toList).m+(e-(pK ops.toList).m)=e from om,m]at this;simp only[YL]at this;refine⟨this.2.1,by simpa using this.2.2,fun w G=>?_⟩;have t:=this.1;unfold iG;split at t
  ·rename_i b v;try rw[v]
   show YX b w=true;unfold subset at t;have u:=YP t;have p:((2^(pK ops.toList).m-1)&&&b).testBit w=(2^(pK ops.toList).m-1).testBit w:=congrArg (fun R=>YX R w) u;rw[Nat.testBit_and,Nat.testBit_two_pow_sub_one]at p;simpa [G]using p
  ·cases t
variable{d:Array Value} {n:fH} {j:Value} {k:Nat->Prop} {r:Fr} {g:List Nat}
section
variable{C:dU} {w0:World} {N0:Nat} {G:Nat->Prop} {ρ:Ren} {st:St} {w:World} {ev:Operand->Option Value} {lq:Operand->Value}
def Tu(ρ:Ren)(w:World)(l:Nat)(m:Value)(e:fH)(h:Result Next):Prop:=
 ∃c co f,h=.ok (.value c) {w with heap:=w.heap.push co}/\f.b=w.heap.size/\∀b:Ren,ρ.le b->b l=some f->vA b f e (some co)/\cY b m c
theorem xo{c:List Value}(es q:Nat)(e:TypeId)(h:cU ρ c d.toList){u v':Value}{t:Result Next}(l:t=.ok (.value v') {w with heap:=w.heap.push (.cells d e)}) 
  (p:∀b:Ren,ρ.le b->b q=some ⟨w.heap.size,0,es,d.size⟩->cY b u v'):Tu ρ w q u (.cells c es q 0) t:=by
 refine⟨v',.cells d e,⟨w.heap.size,0,es,d.size⟩,l,Z,fun b f o=>⟨⟨d,e,0,0,Z,Z,Z,?_,fun y A m=>?_,fun y _ v=>om⟩,p b f o⟩⟩
 ·have:=h.length;simp at this;simp;omega
 ·obtain⟨s,z,x⟩:=h.get m;exact⟨s,by simpa using z,x.mono f⟩
theorem L0(m:l6 C)(W:mJ ρ ev lq){o:Oper}(V:ft o.op=true){s:St}(c:h0 C ev o ⟨.nil,a,.nil⟩=some (.val j s))(p:s.get a=some n):
  Tu ρ w a j n ((execOp lq o).run C.P w):=by
 have h:∀E:fH,((⟨.nil,a,.nil⟩:St).new E).get a=some E:=fun E=>by rw[dl,if_pos rfl]
 unfold h0 at c;split at c
 case h_4 X b=>
  unfold uG at c;split at c
  ·rename_i B x;obtain⟨rfl,rfl⟩:=c7 c;rw[h]at p;cases p;obtain⟨L,K,u⟩:=kW m x w;have y:cU ρ B.zero L.cells.toList:=by rw[u.cells];exact iO (m.vD _ _ x) ρ
   refine xo (v':=.pointer (some ⟨w.heap.size,0,none⟩)) B.size a X y ?_ (fun v _ q=>.ptr (l:=⟨w.heap.size,0,B.size,L.cells.size⟩) q);simp only[execOp,b,Instr.alloc];rw[Sem.run_bind];simp only[Sem.run_bind,K,Result.andThen_ok,newVar,gg,Sem.run_pure]
  ·cases c
 case h_5 X E b=>
  split at c
  ·rename_i ag aa;unfold H5 at c;split at c
   ·obtain⟨rfl,rfl⟩:=c7 c;rw[h]at p;cases p;have r:=W _ _ aa;refine xo (v':=.pointer (some ⟨w.heap.size,0,none⟩)) _ a X r.cells ?_ (fun v _ q=>.ptr (l:=⟨w.heap.size,0,_,(lq E).cells.size⟩) q);simp only[execOp,b,Instr.box];rw[Sem.run_bind];simp only[Sem.run_bind,Result.andThen_ok,newVar,gg,Sem.run_pure]
   ·cases c
  ·cases c
 case h_7 X A g b=>
  split at c
  ·rename_i l k;unfold jh at c;split at c
   ·rename_i B x;split at c
    ·rename_i I M;split at c
     ·rename_i f t;split at c
      ·rename_i ah e Q;split at c
       ·rename_i ad;obtain⟨rfl,rfl⟩:=c7 c;rw[h]at p;cases p;simp only[YL]at e;have i:=Y0.mp e.1.1;have ae:=Y3 e.1.2;have G:=YP e.2;obtain⟨L,K,u⟩:=kW m t w;have T:L.cells.size=f.size:=by rw[<-G,<-u.cells];simp
        have R:cU ρ (tR f.zero A) ((Array.range (A*f.size)).map (L.cells[· %L.cells.size]!)).toList:=by
         rw[<-T,zK,u.cells];exact iO (s4 (m.vD _ _ t) A) ρ
        have U:yd ρ l (g.map fun(Y,E)=>(Y,lq E)).toList:=by rw[Array.toList_map];exact r9 W k
        obtain⟨N,z,D⟩:=vE (place':=fun Y=>some (Y*f.size,f.size)) (fun Y E ac=>ac) U R Q;have J:N.size=A*f.size:=by
         have P:=D.length;have d:=vF Q;have ab:=(Dt f.zero A).1;simp only[Array.length_toList]at P;rw[<-P,d,ab,G]
        refine xo (v':=.slice (some ⟨w.heap.size,0,none⟩) A A) f.size a I D ?_ (fun v _ q=>.slice (l:=⟨w.heap.size,0,f.size,N.size⟩) q (Nat.le_refl _) (by simp[J]));simp only[execOp,b];rw[Sem.run_bind];by_cases H:A*f.size=0
        ·have F:∀af:Nat->Value,Array.map af (Array.range 0)= #[]:=fun _=>Array.eq_empty_of_size_eq_zero sm;simp only[H,F]at z;simp only[Instr.buildSlice,Sem.run_bind,dT m x,M,Result.andThen_ok,e1 m t,H,if_neg (by omega:¬0>2^24),if_true,Sem.run_pure,F,z,gg]
        ·simp only[Instr.buildSlice,Sem.run_bind,dT m x,M,Result.andThen_ok,e1 m t,if_neg (by omega:¬A*f.size>2^24),if_neg H,K,Sem.run_pure,z,gg]
       ·cases c
      ·cases c
     ·cases c
    ·cases c
   ·cases c
  ·cases c
 case h_16 X b=>
  obtain⟨rfl,rfl⟩:=c7 c;rw[h]at p;cases p;refine⟨.map (some w.heap.size),.map #[] 0,⟨w.heap.size,0,0,0⟩,?_,Z,fun v _ q=>⟨⟨#[],Z,tv⟩,.map (l:=⟨w.heap.size,0,0,0⟩) q⟩⟩;simp only[execOp,b];rfl
 all_goals (exfalso;first|(rename_i b;rw[b]at V;simp[ft]at V;done)|cases c)
theorem L1{o:Oper}(e:ft o.op=true){s:St}(b:h0 C ev o st=some (.val j s)):∃f,s=st.new f/\rZ st f:=by
 unfold h0 at b;split at b
 case h_4 h c=>
  unfold uG at b;split at b
  ·obtain⟨rfl,rfl⟩:=c7 b;exact⟨_,rfl,rfl⟩
  ·cases b
 case h_5 h m c=>
  split at b
  ·unfold H5 at b;split at b
   ·obtain⟨rfl,rfl⟩:=c7 b;exact⟨_,rfl,rfl⟩
   ·cases b
  ·cases b
 case h_7 h p l c=>
  split at b
  ·unfold jh at b;repeat' split at b
   all_goals first|cases b;done|(obtain⟨rfl,rfl⟩:=c7 b;exact⟨_,rfl,rfl⟩)
  ·cases b
 case h_16 h c=>obtain⟨rfl,rfl⟩:=c7 b;exact⟨_,rfl,tv⟩
 all_goals (exfalso;first|(rename_i c;rw[c]at e;simp[ft]at e;done)|cases b)
theorem dj.OC(e:dj w0 N0 G ρ st w)(x:rZ st n):dj w0 N0 (fun m=>G m∨m=st.n) ρ (st.new n) w:=by
 have t:=e.gY;have c:∀b h,ρ b=some h->b≠st.n:=fun b h f v=>by subst v;rw[t]at f;cases f
 refine⟨e.wf.new x,e.below,e.Cu,?_,fun b h f=>?_,fun b h B f z=>?_,fun b A h D B C p l y q o u=>?_⟩
 ·rintro m (s|rfl)
  ·exact⟨(e.HZ m s).1,Nat.lt_succ_of_lt (e.HZ m s).2⟩
  ·exact⟨t,Nat.lt_succ_self _⟩
 ·have:=e.vt b h f;exact⟨Nat.lt_succ_of_lt this.1,this.2⟩
 ·rw[dl,if_neg (c _ _ f)]at z;exact e.obj _ _ _ f z
 ·rw[dl,if_neg (c _ _ p)]at q;rw[dl,if_neg (c _ _ l)]at o;exact e.sep _ _ _ _ _ _ p l y q o u
theorem dj.RB(p:dj w0 N0 G ρ st w){co:Obj}{l:Loc}(M:ρ a=none)(N:a<st.n)(A:st.get a=some n)(E:l.b=w.heap.size)(F:vA (ρ.add a l) l n (some co))(J:∀t,k t->G t/\t≠a):
  dj w0 N0 k (ρ.add a l) st {w with heap:=w.heap.push co}:=by
 have y:=er (l:=l) M;have h:∀u,u<w.heap.size->(w.heap.push co)[u]?=w.heap[u]?:=fun u B=>by rw[Array.getElem?_push,if_neg om]
 have H:=p.Cu;refine⟨p.wf,p.below.trans ⟨Z,Z,Z,by simp,fun u B=>h u om⟩,by show N0<=(w.heap.push co).size;simp;omega,fun t K=>?_,fun b o c=>?_,fun b o I c m=>?_,fun b z Q R P O f e L D C q=>?_⟩
 ·obtain⟨f,e⟩:=J t K;have:=p.HZ t f;exact⟨by rw[dZ _ _ e];exact this.1,this.2⟩
 ·show b<st.n/\N0<=o.b/\o.b<(w.heap.push co).size;by_cases s:b=a
  ·subst s;rw[c6]at c;cases c;simp;omega
  ·rw[dZ _ _ s]at c;have:=p.vt _ _ c;simp;omega
 ·show vA _ o I (w.heap.push co)[o.b]?;by_cases s:b=a
  ·subst s;rw[c6]at c;cases c;rw[A]at m;cases m;rw[E,Array.getElem?_push_size];exact F
  ·rw[dZ _ _ s]at c;rw[h _ (p.vt _ _ c).2.2];exact(p.obj _ _ _ c m).mono y
 ·by_cases x:b=a
  ·subst x;rw[c6]at f;cases f;rw[dZ _ _ (fun s=>q s.symm)]at e;have:=(p.vt _ _ e).2.2;omega
  ·rw[dZ _ _ x]at f;by_cases v:z=a
   ·subst v;rw[c6]at e;cases e;have:=(p.vt _ _ f).2.2;omega
   ·rw[dZ _ _ v]at e;exact p.sep _ _ _ _ _ _ f e L D C q
theorem dj.uh(b:dj w0 N0 G ρ st w)(e:∀c,k c->G c):dj w0 N0 k ρ st w:=
 ⟨b.wf,b.below,b.Cu,fun c f=>b.HZ c (e c f),b.vt,b.obj,b.sep⟩
def nN(b:Tr Value)(c:List Nat):Tr Value:=c.foldl (fun b e=>b.put e none) b
theorem iP:∀(b:List Nat) (c:Tr Value) (h:Nat),(nN c b).get h=if h∈b then none else c.get h:=by
 intro b;induction b with
 |nil=>intro c h;simp[nN]
 |cons l b m=>
  intro c h;have:nN c (l::b)=nN (c.put l none) b:=rfl;rw[this,m,cT];by_cases f:h∈b
  ·rw[if_pos f,if_pos (by simp[f])]
  ·rw[if_neg f];by_cases e:h=l
   ·rw[if_pos e,if_pos (by simp[e])]
   ·rw[if_neg e,if_neg (by simp[f,e])]
def mK(b:Fr)(c:List Nat):Fr:=⟨nN b.tm c,b.df⟩
theorem Iv{xs:List Operand}{t:Tmp}(c:Operand.tmp t∈xs):t∈tmpsOf xs:=by
 induction xs with
 |nil=>simp at c
 |cons e xs b=>
  rcases YM.1 c with rfl|h2
  ·simp[tmpsOf]
  ·cases e<;>simp[tmpsOf,b h2]
theorem xp{ops:List Oper}{o:Oper}(e:∀b∈oC ops o,b ∉ g):∀c∈o.op.operands,iF r c=iF (mK r g) c:=by
 intro c h;cases c with
 |tmp b=>
  have f:b∈oC ops o:=YU.2 (.inl (Iv (by simpa using h)));show r.tm.get b=(nN r.tm g).get b;rw[iP,if_neg (e b f)]
 |_=>rfl
theorem na{ops:List Oper}{o:Oper}(e:∀q∈oC ops o,q ∉ g):gw ops r o=gw ops (mK r g) o:=by
 unfold gw;split
 ·rfl
 ·rename_i t h m;split
  ·rfl
  ·rename_i s f;split
   ·rfl
   ·rename_i c b;have l:c∈oC ops o:=YU.2 (.inr (by simp[m,f,b]));have p:(mK r g).tm.get c=r.tm.get c:=by
     show(nN r.tm g).get c=_;rw[iP,if_neg (e c l)]
    rw[p]
end
theorem pN{C:dU}{ev:Operand->Option Value}{o:Oper}{st s:St}(e:fM o.op=false)(h:ft o.op=false)(c:h0 C ev o st=some (.val j s))(F:s.n=st.n):s=st:=by
 have f:∀{z:Value} {q:St},val z q=some (.val j s)->q=st∨q.n=st.n+1->s=st:=by
  intro z q w h2;obtain⟨_,rfl⟩:=c7 w;rcases h2 with h2|h2
  ·exact h2
  ·omega
 unfold h0 at c;split at c
 case h_28 y b=>
  rw[b]at e;split at c
  ·cases c
  ·split at c
   ·rename_i A p;obtain⟨m,t,l⟩:=y;simp only at p;subst p;unfold iE at c;split at c<;>first|(simp[fM]at e;done)|skip
    ·unfold vw at c;repeat' split at c
     all_goals first|cases c;done|exact f c (.inl rfl)
    ·repeat' split at c
     all_goals first|cases c;done|exact f c (.inl rfl)
    ·repeat' split at c
     all_goals first|cases c;done|exact f c (.inl rfl)
    ·cases c
   ·rename_i H p;exfalso;obtain⟨m,t,l⟩:=y;simp only at p;subst p;simp[fM]at e
   ·cases c
 case h_29 y b=>rw[b]at e;simp[fM]at e
 case h_30 v b=>rw[b]at e;simp[fM]at e
 case h_2 v b=>rw[b]at e;simp[fM]at e
 case h_9 u G v b=>rw[b]at e;simp[fM]at e
 case h_24 u x D E b=>rw[b]at e;simp[fM]at e
 case h_25 u x D E b=>rw[b]at e;simp[fM]at e
 case h_4 u b=>rw[b]at h;simp[ft]at h
 case h_5 u v b=>rw[b]at h;simp[ft]at h
 case h_7 u I B b=>rw[b]at h;simp[ft]at h
 case h_16 u b=>rw[b]at h;simp[ft]at h
 case h_31=>cases c
 all_goals
  first
  |unfold rQ at c
  |unfold vv at c
  |unfold lE at c
  |unfold gW at c
  |unfold gH at c
  |unfold iq at c
  |unfold nD at c
  |unfold fa at c
  |unfold uI at c
  |unfold gf at c
  |unfold rU at c
  |unfold oA at c
  |unfold ik at c
  |unfold nE at c
  |skip
  repeat' split at c
  all_goals first|cases c;done|exact f c (.inl rfl)|exact f c (.inr rfl)
def ui(ops:Array Oper)(b:Nat):Option Tmp:=(ops[b]?).bind (·.dst)
def fu(ops:Array Oper)(D:Nat->Bool)(b:List Nat):List Nat:=(b.filter fun c=> !D c).filterMap (ui ops)
theorem kX{ops:Array Oper}{D:Nat->Bool}{t:Nat}:t∈fu ops D g↔∃e∈g,D e=false/\ui ops e=some t:=by
 unfold fu;rw[List.mem_filterMap];constructor
 ·rintro⟨e,b,c⟩;rw[YT]at b;exact⟨e,b.1,by simpa using b.2,c⟩
 ·rintro⟨e,b,f,c⟩;exact⟨e,YT.2 ⟨b,by simp[f]⟩,c⟩
def zW(G:Nat->Prop)(D:Nat->Bool)(b:List rF):Nat->Prop:=fun e=>G e∨∃f h c,rF.obj f h e c∈b/\D f=false
variable{i:List Deferred}
section
variable{C:dU} {w0:World} {N0:Nat} {G:Nat->Prop} {fc:FC} {b:FB} {rc:Rec} {ops:Array Oper} {bs:List Nat} {m:Nat} {order:List Nat}
structure Down (ops:Array Oper) (D:Nat->Bool):Prop where
 vt:∀i,D i=true->i<ops.size
 closed:∀i o,D i=true->ops[i]?=some o->∀e∈o.after.toList,Region.binds .any e=true->D e.on=true
theorem Down.bits{D:Nat->Bool}(s:Down ops D)(l:h7 ops bs m order):∀b p,D b=true->iG bs b p=true->D p=true:=by
 intro b;induction b using Nat.strongRecOn with
 |_ b t=>
  intro p h u;have o:=s.vt b h;have e:ops[b]?=some ops[b]:=YN o;obtain⟨q,f,c,h1|h1⟩:=l.bits b _ e p u
  ·rw[<-h1];exact s.closed b _ h e q f c
  ·exact t q.on (l.back b _ e q f c) p (s.closed b _ h e q f c) h1
theorem Down.ready{D:Nat->Bool}(s:Down ops D)(f:h7 ops bs m order){o:Oper}(p:ops[a]?=some o)(h:∀e∈o.after.toList,Region.binds .any e=true->D e.on=true){l:Nat}(q:iG bs a l=true):D l=true:=by
 obtain⟨e,c,b,h1|h1⟩:=f.bits a _ p l q
 ·rw[<-h1];exact h e c b
 ·exact s.bits f e.on l (h e c b) h1
theorem Down.add{D:Nat->Bool}(s:Down ops D){o:Oper}(h:ops[a]?=some o)(q:∀m∈o.after.toList,Region.binds .any m=true->D m.on=true):Down ops (fun x=>D x||x==a):=by
 refine⟨fun x b=>?_,fun x p b c m e f=>?_⟩
 ·simp only[YR,beq_iff_eq]at b;rcases b with b|rfl
  ·exact s.vt x b
  ·rcases Nat.lt_or_ge x ops.size with l|l
   ·exact l
   ·rw[Y2 l]at h;cases h
 ·simp only[YR,beq_iff_eq]at b⊢;rcases b with b|rfl
  ·exact .inl (s.closed x p b c m e f)
  ·rw[h]at c;cases c;exact .inl (q m e f)
structure Inv (w0:World) (N0:Nat) (G:Nat->Prop) (ops:Array Oper) (bs:List Nat) (m:Nat) (fc:FC) (b:FB) (D:Nat->Bool) (pre:List Nat) (bb:Nat) (FQ:List rF) (fr:Fr) (ps:ec) (st:St) (ρ:Ren) (w:World) (tm:Array Value) (df:List Deferred) (cs:List Frame):Prop where
 down:Down ops D
 sub:∀i,D i=true->i<m->i∈pre
 L2:∀i∈pre,hW ops.toList i=true->D i=true
 cover:∀i∈pre,hW ops.toList i=false->∃c∈FQ,c.idx=i
 OD:∀j,YX bb j=true->∃e,D e=true/\iG bs e j=true
 Iw:∀i v N ob,rF.obj i v N ob∈FQ->D i=false->N<st.n
 FR:∀i v N ob i' v' Yg,rF.obj i v N ob∈FQ->rF.obj i' v' N Yg∈FQ->D i=false->D i'=false->i=i'
 T5:∀c∈FQ,hW ops.toList c.idx=false/\c.idx∈pre
 fF:∀c∈FQ,∀d,ui ops c.idx=some d->d<fc.nt
 L3:∀i v N ob,rF.obj i v N ob∈FQ->¬G N
 world:dj w0 N0 (zW G D FQ) ρ st w
 frame:ks ρ fc (mK fr (fu ops D pre)) b tm df
 eE:sa ρ fc.BA ps cs
theorem Ix{c:Fr}{b:Option Tmp}(e:gI a r b j=some c):c.df=r.df/\(∀l,b≠some l->c.tm.get l=r.tm.get l)/\∀f,b=some f->f<a:=by
 unfold gI at e;split at e
 ·cases e;exact⟨rfl,(fun _ _=>rfl),(fun f m=>by cases m)⟩
 ·rename_i f;split at e
  ·rename_i h;cases e;refine⟨Z,fun l o=>?_,fun p m=>by cases m;exact Y0.mp h⟩;show(r.tm.set f j).get l=_;rw[cw,if_neg (fun m=>o (by rw[m]))]
  ·cases e
theorem ks.sub{ρ:Ren}{c fr':Fr}(e:ks ρ fc c b d i)(f:fr'.df=c.df)(m:∀o h,fr'.tm.get o=some h->c.tm.get o=some h):ks ρ fc fr' b d i:=
 ⟨e.fn,e.round,e.kind,⟨e.tm.1,fun p h l=>e.tm.2 p h (m p h l)⟩,by rw[f];exact e.df⟩
theorem advance(aB:h7 ops bs m order){D:Nat->Bool}{T:ec}{ah:Ex×Fr×ec×St}{ρ:Ren}{w:World}{aq:List Frame}:
  ∀(u h:List Nat) (c:List rF) (K:Fr) (st:St),order=h++u->eM C rc fc ops.toList bs u a c K T st=some ah->Inv w0 N0 G ops bs m fc b D h a c K T st ρ w d i aq->
  ∃j x M af aj,order=j++x/\eM C rc fc ops.toList bs x a M af T aj=some ah/\Inv w0 N0 G ops bs m fc b D j a M af T aj ρ w d i aq/\(x=[]∨∃e ax,x=e::ax/\hW ops.toList e=true):=by
 intro u;induction u with
 |nil=>intro h c K st Q F f;exact⟨h,[],c,K,st,Q,F,f,.inl rfl⟩
 |cons A ax al=>
  intro h c K st Q F f;cases B:hW ops.toList A with
  |true=>exact⟨h,A::ax,c,K,st,Q,F,f,.inr ⟨A,ax,rfl,B⟩⟩
  |false=>
   have X:order=(h++[A])++ax:=by rw[Q];simp
   have ad:A ∉ h:=by
    have:=aB.nodup;rw[Q,List.nodup_append]at this;intro ao;exact this.2.2 A ao A sm Z
   have ay:A<m:=aB.lt A (by rw[Q];simp);have av:D A=false:=by
    cases p:D A with
    |false=>rfl
    |true=>exact absurd (f.sub A p ay) ad
   rw[eM]at F;split at F
   ·rename_i o aM W aJ;rw[cv,YV]at W;have ak:fM o.op=false:=by
     unfold hW at B;rw[cv,YV,W]at B;exact B
    have U:ui ops A=o.dst:=by unfold ui;rw[W];rfl
    simp only[ak]at F;have I:∀(n:rF) (l:Fr) (H:St) (ac:Value),n.idx=A->gI fc.nt K o.dst ac=some l->
      (∀s t J y,rF.obj s t J y∈n::c->D s=false->J<H.n)->(∀S k J O R aa E,rF.obj S k J O∈n::c->rF.obj R aa J E∈n::c->D S=false->D R=false->S=R)->
      (∀s t J y,rF.obj s t J y∈n::c->¬G J)->dj w0 N0 (zW G D (n::c)) ρ H w->Inv w0 N0 G ops bs m fc b D (h++[A]) a (n::c) l T H ρ w d i aq:=by
     intro n l H ac an z ab r ae V;obtain⟨aw,am,az⟩:=Ix z;refine⟨f.down,fun ap q au=>by simp[f.sub ap q au],fun ap q L=>?_,fun ap q L=>?_,f.OD,ab,r,fun g v=>?_,fun g v aI p=>?_,ae,V,?_,f.eE⟩
     ·rcases YU.1 q with q|q
      ·exact f.L2 ap q L
      ·simp at q;subst q;rw[B]at L;cases L
     ·rcases YU.1 q with q|q
      ·obtain⟨g,v,aH⟩:=f.cover ap q L;exact⟨g,by simp[v],aH⟩
      ·simp at q;subst q;exact⟨n,by simp,an⟩
     ·rcases YM.1 v with rfl|v
      ·rw[an];exact⟨B,by simp⟩
      ·obtain⟨h1,h2⟩:=f.T5 g v;exact⟨h1,by simp[h2]⟩
     ·rcases YM.1 v with rfl|v
      ·rw[an,U]at p;exact az aI p
      ·exact f.fF g v aI p
     ·refine f.frame.sub (fr':=mK l (fu ops D (h++[A]))) aw fun aD aK aG=>?_;have N:(nN l.tm (fu ops D (h++[A]))).get aD=some aK:=aG;rw[iP]at N;split at N
      ·cases N
      ·rename_i ai;show(nN K.tm (fu ops D h)).get aD=some aK;have h1:aD ∉ fu ops D h:=fun hm=>ai (by
        rw[kX]at hm⊢;obtain⟨ap,q,p,L⟩:=hm;exact⟨ap,by simp[q],p,L⟩)
       have h2:o.dst≠some aD:=fun e=>ai (by
        rw[kX];exact⟨A,by simp,av,by rw[U];exact e⟩)
       rw[iP,if_neg h1,<-am aD h2];exact N
    split at F
    ·cases F
    ·rename_i aC;split at F
     ·rename_i l z;exact al (h++[A]) (.skip A::c) l st X F (I (.skip A) l st kn Z z
       (fun s t J y hm p=>by rcases YM.1 hm with e|hm;cases e;exact f.Iw _ _ _ _ hm p)
       (fun S k J O R aa E h1 h2 d1 d2=>by
        rcases YM.1 h1 with e|h1
        ·cases e
        ·rcases YM.1 h2 with e|h2
         ·cases e
         ·exact f.FR _ _ _ _ _ _ _ h1 h2 d1 d2)
       (fun s t J y hm=>by rcases YM.1 hm with e|hm;cases e;exact f.L3 _ _ _ _ hm)
       (f.world.uh (by
        rintro aL (hx|⟨s,t,y,hm,p⟩)
        ·exact .inl hx
        ·rcases YM.1 hm with e|hm
         ·cases e
         ·exact .inr ⟨s,t,y,hm,p⟩)))
     ·cases F
    ·rename_i aC;split at F
     ·rename_i ac H aA;split at F
      ·cases F
      ·rename_i l z;split at F
       ·rename_i Y;obtain⟨P,rfl,ar⟩:=L1 Y aA;split at F
        ·rename_i y ag;rw[dl,if_pos rfl]at ag;cases ag;exact al (h++[A]) (.obj A ac st.n P::c) l (st.new P) X F (I (.obj A ac st.n P) l (st.new P) ac Z z
          (fun s t J E hm p=>by
           show J<st.n+1;rcases YM.1 hm with e|hm
           ·cases e;omega
           ·have:=f.Iw _ _ _ _ hm p;omega)
          (fun S k J O R aa E h1 h2 d1 d2=>by
           rcases YM.1 h1 with e|h1
           ·cases e;rcases YM.1 h2 with e|h2
            ·cases e;rfl
            ·have:=f.Iw _ _ _ _ h2 d2;omega
           ·rcases YM.1 h2 with e|h2
            ·cases e;have:=f.Iw _ _ _ _ h1 d1;omega
            ·exact f.FR _ _ _ _ _ _ _ h1 h2 d1 d2)
          (fun s t J y hm=>by
           rcases YM.1 hm with e|hm
           ·cases e;exact fun aF=>absurd (f.world.HZ _ (.inl aF)).2 (Nat.lt_irrefl _)
           ·exact f.L3 _ _ _ _ hm)
          ((f.world.OC ar).uh (by
           rintro aL (hx|⟨s,t,E,hm,p⟩)
           ·exact .inl (.inl hx)
           ·rcases YM.1 hm with e|hm
            ·cases e;exact .inr rfl
            ·exact .inl (.inr ⟨s,t,E,hm,p⟩))))
        ·cases F
       ·rename_i Y;split at F
        ·rename_i aE;have:=pN ak Y aA (YP aE);subst this;exact al (h++[A]) (.val A ac::c) l H X F (I (.val A ac) l H ac Z z
          (fun s t J y hm p=>by rcases YM.1 hm with e|hm;cases e;exact f.Iw _ _ _ _ hm p)
          (fun S k J O R aa E h1 h2 d1 d2=>by
           rcases YM.1 h1 with e|h1
           ·cases e
           ·rcases YM.1 h2 with e|h2
            ·cases e
            ·exact f.FR _ _ _ _ _ _ _ h1 h2 d1 d2)
          (fun s t J y hm=>by rcases YM.1 hm with e|hm;cases e;exact f.L3 _ _ _ _ hm)
          (f.world.uh (by
           rintro aL (hx|⟨s,t,y,hm,p⟩)
           ·exact .inl hx
           ·rcases YM.1 hm with e|hm
            ·cases e
            ·exact .inr ⟨s,t,y,hm,p⟩)))
        ·cases F
     ·cases F
   ·cases F
end
end Go.AM
