/- Part of the proof. -/
import Derived.Test.YtpejealjkmhkgaaGreatDoorKAf
set_option linter.all false
set_option maxHeartbeats 16000000
set_option maxRecDepth 100000
open Bool renaming and_eq_true->abK,or_eq_true->aeN,not_eq_true'->aeV
open List renaming mem_cons->abL,all_eq_true->aeM,mem_filter->aeP,mem_append->aeQ,mem_erase_of_ne->aeS,range->aeU,length_erase_of_mem->aeX
open Array renaming getElem?_eq_getElem->aet,getD_eq_getD_getElem?->aeu,getElem?_toList->aeR,getElem?_eq_none->aeY
open Nat renaming eq_of_beq_eq_true->aev,beq_eq->aeO,testBit->aeT,blt_eq->aeW,le_of_ble_eq_true->aeZ
namespace Go.AM
open Go.RowKit (Below)
theorem VV{f b:Fn}(c:Sm f b=true):f=b:=by
 cases f<;>cases b<;>simp[Sm]at c<;>rw[c]
theorem Fo{h b:Addr}(c:addrEq h b=true):h=b:=by
 obtain⟨o,n,s⟩:=h;obtain⟨m,l,f⟩:=b;simp only[addrEq,abK,aeO]at c;obtain⟨⟨rfl,rfl⟩,c⟩:=c;cases s<;>cases f<;>simp at c⊢
theorem IY{f b:ByteArray}(c:pz f b=true):f=b:=by
 rw[pz,qy,beq_iff_eq]at c;apply ByteArray.ext;exact Array.ext' c
mutual
theorem so:∀(a b:Value),nV a b=true->a=b
 |.func f ⟨x⟩ ⟨y⟩,b,h=>by
  cases b<;>first|(simp[nV]at h;done)|skip
  rename_i f' x' y';obtain⟨x'⟩:=x';obtain⟨y'⟩:=y';simp only[nV,abK]at h;rw[VV h.1.1,yc x x' h.1.2,yc y y' h.2]
 |.iface t v,b,h=>by
  cases b<;>first|(simp[nV]at h;done)|skip
  rename_i t' v';simp only[nV,abK,aeO]at h;rw[h.1,so v v' h.2]
 |.agg ⟨x⟩,b,h=>by
  exact abY
 |.tuple ⟨x⟩,b,h=>by
  exact abY
 |.bool a,b,h=>by
  cases b<;>first|(simp[nV]at h;done)|(simp[nV]at h;rw[h])
 |.int k a,b,h=>by
  cases b<;>first|(simp[nV]at h;done)|skip
  simp only[nV,abK]at h;rw[sk.1 h.1,Ct.1 h.2]
 |.string a,b,h=>by
  cases b<;>first|(simp[nV]at h;done)|skip
  simp only[nV]at h;rw[IY h]
 |.pointer none,b,h=>by
  exact acd
 |.pointer (some a),b,h=>by
  cases b<;>first|(simp[nV]at h;done)|skip
  rename_i q;cases q<;>first|(simp[nV]at h;done)|(simp only[nV]at h;rw[Fo h])
 |.slice none l c,b,h=>by
  cases b<;>first|(simp[nV]at h;done)|skip
  rename_i q l' c';cases q<;>first|(simp[nV]at h;done)|skip
  simp only[nV,abK,aeO]at h;rw[h.1,h.2]
 |.slice (some a) l c,b,h=>by
  cases b<;>first|(simp[nV]at h;done)|skip
  rename_i q l' c';cases q<;>first|(simp[nV]at h;done)|skip
  simp only[nV,abK,aeO]at h;rw[Fo h.1.1,h.1.2,h.2]
 |.map none,b,h=>by
  exact acd
 |.map (some a),b,h=>by
  cases b<;>first|(simp[nV]at h;done)|skip
  rename_i q;cases q<;>first|(simp[nV]at h;done)|(simp only[nV,aeO]at h;rw[h])
 |.nilFunc,b,h=>by cases b<;>first|rfl|(simp[nV]at h;done)
 |.nilIface,b,h=>by cases b<;>first|rfl|(simp[nV]at h;done)
 |.float k x,b,h=>by cases b<;>(simp[nV]at h;done)
 |.complex k x y,b,h=>by cases b<;>(simp[nV]at h;done)
 |.chan r,b,h=>by cases b<;>(simp[nV]at h;done)
theorem yc:∀(a b:List Value),zO a b=true->a=b
 |[],[],_=>rfl
 |x::a,y::b,h=>by
  simp only[zO,abK]at h;rw[so x y h.1,yc a b h.2]
 |[],_::_,h=>by simp[zO]at h
 |_::_,[],h=>by simp[zO]at h
end
theorem yt:∀{n b:List MapEntry},pi n b=true->n=b
 |[],[],_=>rfl
 |x::n,o::b,c=>by
  simp only[pi,NL,abK,aeO]at c;obtain⟨⟨⟨h,f⟩,l⟩,m⟩:=c;obtain⟨u,v,t⟩:=x;obtain⟨s,q,p⟩:=o;rw[yt m];simp only at h f l;rw[so _ _ h,so _ _ f,l]
 |[],_::_,c=>by simp[pi]at c
 |_::_,[],c=>by simp[pi]at c
theorem IZ{f b:fX}(c:yd f b=true):f=b:=by
 cases f<;>cases b<;>first|(simp[yd]at c;done)|skip
 ·simp only[yd,abK,aeO]at c;rw[yc _ _ c.1.1.1,c.1.1.2,c.1.2,c.2]
 ·simp only[yd,abK,aeO]at c;rw[yt c.1,c.2]
 ·simp only[yd,abK,aeO]at c;rw[IY c.1,c.2]
section
variable{C:dR} {ev Ef:Operand->Option Value} {st:St}
theorem pa:∀{xs:List Operand},(∀b∈xs,ev b=Ef b)->nf ev xs=nf Ef xs:=by
 intro xs;induction xs with
 |nil=>intro _;rfl
 |cons b xs c=>intro h;simp only[nf];rw[h b sm,c (fun l f=>h l (by simp[f]))]
theorem wI:∀{b:List (Nat×Operand)},(∀c∈b.map (·.2),ev c=Ef c)->l9 ev b=l9 Ef b:=by
 intro b;induction b with
 |nil=>intro _;rfl
 |cons c b h=>obtain⟨n,c⟩:=c;intro l;simp only[l9];rw[l c sm,h (fun m f=>l m (by simp at f⊢;exact .inr f))]
theorem zT(o:Oper)(f:∀h∈o.op.operands,ev h=Ef h):j8 C ev o st=j8 C Ef o st:=by
 unfold j8;split
 case h_31=>rfl
 case h_4=>rfl
 case h_16=>rfl
 all_goals (rename_i t;rw[t]at f;simp only[Op.operands]at f)
 case h_30 h=>rw[f h sm]
 case h_6=>rw[wI (ev:=ev) (Ef:=Ef) (fun h c=>f h (by simpa using c))]
 case h_7=>rw[wI (ev:=ev) (Ef:=Ef) (fun h c=>f h (by simpa using c))]
 case h_15 B b=>rw[pa (ev:=ev) (Ef:=Ef) (xs:=B.toList) (fun h c=>f h (by simp;exact .inl (by simpa using c))),pa (ev:=ev) (Ef:=Ef) (xs:=b.toList) (fun h c=>f h (by simp;exact .inr (by simpa using c)))]
 case h_18 h w v u=>
  have x:=f h sm;have E:∀l,w=some l->ev l=Ef l:=fun l m=>f l (by subst m;simp);have D:∀l,v=some l->ev l=Ef l:=fun l m=>f l (by subst m;simp);have F:∀l,u=some l->ev l=Ef l:=fun l m=>f l (by subst m;simp);rw[x];cases w<;>cases v<;>cases u<;>simp_all
 case h_28 A=>
  simp only[Call.operands]at f;rw[pa (ev:=ev) (Ef:=Ef) (xs:=A.args.toList) (fun h c=>f h (by simp;exact .inr (by simpa using c)))];split
  ·rfl
  ·split
   ·rfl
   ·rename_i y q;rw[f y (by rw[q];simp)]
   ·rfl
 case h_29 A=>
  simp only[Call.operands]at f;rw[pa (ev:=ev) (Ef:=Ef) (xs:=A.args.toList) (fun h c=>f h (by simp;exact .inr (by simpa using c)))];split
  ·rename_i y _ q;rw[f y (by rw[q];simp)]
  ·rfl
 all_goals first
  |rfl
  |(simp at f;simp only[f];done)
  |(simp at f;obtain⟨p,n⟩:=f;simp only[p,n];done)
  |(simp at f;obtain⟨p,n,z⟩:=f;simp only[p,n,z];done)
end
inductive LG (ops:Array Oper):(Nat->Bool)->List Nat->Prop
 |nil {D:Nat->Bool} (h:∀i,i<ops.size->D i=true):LG ops D []
 |cons {D:Nat->Bool} {i:Nat} {L:List Nat} {o:Oper} (ho:ops[i]?=some o) (hn:D i=false) (he:∀e∈o.after.toList,Region.binds .any e=true->D e.on=true) (t:LG ops (fun x=>D x||x==i) L):LG ops D (i::L)
def zU(ops:Array Oper):Prop:=∀(f:Nat) (c:Oper),ops[f]?=some c->∀b∈c.after.toList,Region.binds .any b=true->b.on<f
theorem Py{p q:Nat->Bool}:∀(c:List Nat),(∀m∈c,q m=true->p m=true)->∀o∈c,p o=true->q o=false->c.countP q<c.countP p:=by
 intro c;induction c with
 |nil=>intro _ o b;simp at b
 |cons m c t=>
  intro u o b l n;have v:c.countP q<=c.countP p:=List.countP_mono_left fun s f=>u s (by simp[f]);rcases abL.1 b with rfl|b
  ·rw[List.countP_cons_of_neg (by simp[n]),List.countP_cons_of_pos l];omega
  ·have:=t (fun s f=>u s (by simp[f])) o b l n;simp only[List.countP_cons];by_cases h:q m=true
   ·rw[if_pos h,if_pos (u m sm h)];omega
   ·rw[if_neg h];omega
theorem aaB{ops:Array Oper}(L:zU ops):∀(f I:Nat) (listed:Array Bool) (m:List Nat),listed.size=ops.size->(aeU ops.size).countP (fun b=> !listed.getD b false)<=f->
  ∃K,Region.linearise.go .any ops f I listed m=m.reverse++K/\LG ops (fun x=>listed.getD x false) K:=by
 intro f;induction f with
 |zero=>
  intro I listed m F P;refine⟨[],by simp[Region.linearise.go],.nil fun b c=>?_⟩;have E:(aeU ops.size).countP (fun b=> !listed.getD b false)=0:=om;rw[List.countP_eq_zero]at E;have:=E b (by simpa using c);simpa using this
 |succ f N=>
  intro I listed m F P;simp only[Region.linearise.go];generalize z:(aeU ops.size).filter (fun b=> !listed.getD b true&&((ops[b]?).map (·.after.all fun J=> !Region.binds .any J||listed.getD J.on false)).getD false)=n;have y:∀b,b<ops.size->listed.getD b true=listed.getD b false:=by
   intro b c;simp[aeu,aet (by omega:b<listed.size)]
  cases p:n[I%n.length]? with
  |none=>
   have t:n=[]:=by
    cases n with
    |nil=>rfl
    |cons Q S=>
     rw[List.getElem?_eq_getElem (Nat.mod_lt _ sm)]at p;cases p
   refine⟨[],by simp,.nil fun b=>?_⟩;induction b using Nat.strongRecOn with
   |_ b H=>
    intro c;cases w:listed.getD b false with
    |true=>rfl
    |false=>
     exfalso;have h:b∈n:=by
      rw[<-z,aeP];refine⟨by simpa using c,?_⟩;rw[y b c,w,aet c];simp only[Bool.not_false,Option.map_some,Option.getD_some,Bool.true_and];rw[Array.all_eq_true];intro G s;cases q:Region.binds .any ops[b].after[G]with
      |false=>rfl
      |true=>
       have D:=L b ops[b] (aet c) ops[b].after[G] sm q;rw[H _ D om];rfl
     rw[t]at h;simp at h
  |some b=>
   have h:b∈n:=List.mem_of_getElem? p;rw[<-z,aeP]at h;obtain⟨c,l⟩:=h;have c:b<ops.size:=by simpa using c
   rw[y b c,aet c]at l;simp only[Option.map_some,Option.getD_some,abK,aeV]at l;obtain⟨w,v⟩:=l;rw[Array.all_eq_true]at v;have o:∀x,(listed.setIfInBounds b true).getD x false=(listed.getD x false||x==b):=by
    intro x;by_cases C:x=b
    ·subst C;simp[aeu,Array.getElem?_setIfInBounds_self_of_lt (by omega:x<listed.size)]
    ·simp[aeu,Array.getElem?_setIfInBounds_ne (fun J=>C J.symm),C]
   have u:(aeU ops.size).countP (fun x=> !(listed.setIfInBounds b true).getD x false)<=f:=by
    have:=Py (p:=fun x=> !listed.getD x false) (q:=fun x=> !(listed.setIfInBounds b true).getD x false) (aeU ops.size) (fun x _ s=>by
     rw[o]at s;simp at s⊢;exact s.1) b (by simpa using c) (by simp[w]) (by rw[o];simp)
    omega
   obtain⟨K,M,A⟩:=N (I/n.length) (listed.setIfInBounds b true) (b::m) (by simp[F]) u;refine⟨b::K,by simp only;rw[M];simp,.cons (aet c) w (fun J O q=>?_) ?_⟩
   ·obtain⟨G,s,rfl⟩:=List.getElem_of_mem O;have:=v G (by simpa using s);simp only[Array.getElem_toList]at q⊢;rw[q]at this;simpa using this
   ·have B:(fun x=>(listed.setIfInBounds b true).getD x false)=(fun x=>listed.getD x false||x==b):=funext o;rw[<-B];exact A
theorem GB{ops:Array Oper}(m:zU ops)(t:Nat):LG ops (fun _=>false) (Region.schedule true ops t):=by
 have f:Region.schedule true ops t=Region.linearise .any ops t:=by simp[Region.schedule]
 rw[f];obtain⟨o,n,c⟩:=aaB m ops.size t (Array.replicate ops.size false) [] sm (by
  refine Nat.le_trans (List.countP_le_length) sm)
 have:Region.linearise .any ops t=o:=by simpa [Region.linearise]using n
 rw[this];have b:(fun l=>(Array.replicate ops.size false).getD l false)=(fun _=>false):=by
  funext l;by_cases h:l<ops.size
  ·simp[aeu,h]
  ·simp[aeu,h]
 rw[<-b];exact c
structure iV (ops:Array Oper) (bs:List Nat) (m:Nat) (order:List Nat):Prop where
 back:zU ops
 bits:∀(i:Nat) (o:Oper),ops[i]?=some o->∀j,jA bs i j=true->∃e∈o.after.toList,Region.binds .any e=true/\(e.on=j∨jA bs e.on j=true)
 mle:m<=ops.size
 all:∀i,i<m->i∈order
 lt:∀i,i∈order->i<m
 nodup:order.Nodup
 later:∀pre e post,order=pre++e::post->iO ops.toList e=true->∀i∈post,jA bs i e=true
 reads:∀(j:Nat) (oj:Oper) (t:Tmp),ops[j]?=some oj->gb oj.op=false->oj.dst=some t->∀(i:Nat) (oi:Oper),ops[i]?=some oi->t∈qu ops.toList oi->jA bs i j=true
 tail:∀(i:Nat) (o:Oper),m<=i->ops[i]?=some o->IB o.op=true/\o.guard=none/\∀j,j<m->jA bs i j=true
variable{a:Nat}
theorem GC{bs:List Nat}:∀(n:List Edge) (s:Nat),aeT (n.foldl (fun s c=>match Region.binds .any c with|true=>Nat.lor (Nat.lor s (2^c.on)) (match nth bs c.on with|some b=>b|none=>0)|false=>s) s) a=true->
  aeT s a=true∨∃c∈n,Region.binds .any c=true/\(c.on=a∨jA bs c.on a=true):=by
 intro n;induction n with
 |nil=>intro s h;exact .inl h
 |cons c n p=>
  intro s h;simp only[List.foldl_cons]at h;rcases p _ h with h|⟨t,o,f,q⟩
  ·cases f:Region.binds .any c with
   |false=>rw[f]at h;exact .inl h
   |true=>
    rw[f]at h;simp only at h;have l:((s|||2^c.on)|||(match nth bs c.on with|some b=>b|none=>0)).testBit a=true:=h;rw[Nat.testBit_or,Nat.testBit_or,aeN,aeN]at l;rcases l with(h|h)|h
    ·exact .inl h
    ·rw[Nat.testBit_two_pow]at h;exact .inr ⟨c,by simp,f,.inl (by simpa using h)⟩
    ·refine .inr ⟨c,by simp,f,.inr ?_⟩;unfold jA;cases m:nth bs c.on with
     |none=>rw[m]at h;simp at h
     |some b=>rw[m]at h;exact h
  ·exact .inr ⟨t,by simp[o],f,q⟩
theorem GD{ops:List Oper}{bs:List Nat}:∀{o:List Nat},BQ ops bs o=true->∀c l b,o=c++l::b->iO ops l=true->∀p∈b,jA bs p l=true:=by
 intro o;induction o with
 |nil=>intro _ c l b m;simp at m
 |cons t o q=>
  intro m c l b f h p n;simp only[BQ,abK,aeN,aeV,aeM]at m;cases c with
  |nil=>
   simp at f;obtain⟨rfl,rfl⟩:=f;rcases m.1 with h1|h1
   ·rw[h1]at h;cases h
   ·exact h1 p n
  |cons s c=>
   simp at f;obtain⟨rfl,rfl⟩:=f;exact q m.2 c l b Z h p n
theorem any_beq{l:List Nat}:l.any (Nat.beq a)=true↔a∈l:=by
 rw[List.any_eq_true];constructor
 ·rintro⟨f,c,b⟩;rw[aev b];exact c
 ·intro b;exact⟨a,b,Nat.beq_refl a⟩
theorem CB:∀{m:Nat} {c:List Nat},(∀b,b<m->b∈c)->c.length=m->c.Nodup:=by
 intro m c A D;have:∀(f:Nat) (c:List Nat),c.length<=f->(∀b,b<f->b∈c)->c.Nodup:=by
  intro f;induction f with
  |zero=>intro c w _;cases c with|nil=>simp|cons _ _=>simp at w
  |succ f C=>
   intro c w u;have l:=u f om;have z:(c.erase f).length<=f:=by rw[aeX l];omega
   have y:=C (c.erase f) z (fun b s=>by
    rw[aeS om];exact u b om)
   have q:f ∉ c.erase f:=by
    intro v;have t:∀b,b<f+1->b∈c.erase f:=by
     intro b s;by_cases A:b=f
     ·subst A;exact v
     ·rw[aeS A];exact u b s
    have:∀(o:Nat) (h:List Nat),(∀b,b<o->b∈h)->o<=h.length:=by
     intro o;induction o with
     |zero=>intro h _;omega
     |succ o x=>
      intro h p;have:=x (h.erase o) (fun b s=>by rw[aeS om];exact p b om);rw[aeX (p o om)]at this;have B:0<h.length:=List.length_pos_of_mem (p o om);omega
    have:=this (f+1) _ t;omega
   have n:=List.perm_cons_erase l;exact n.nodup_iff.2 (List.nodup_cons.2 ⟨q,y⟩)
 exact this m c om A
theorem I0{ops:Array Oper}(h:Gm ops.toList=true):iV ops (rH ops.toList).bs (rH ops.toList).m (rH ops.toList).order:=by
 unfold Gm at h;simp only[abK]at h;obtain⟨⟨⟨⟨⟨⟨⟨⟨D,B⟩,M⟩,C⟩,E⟩,N⟩,L⟩,x⟩,y⟩:=h;have c:∀(f:Nat) (z:Oper),ops[f]?=some z->nth ops.toList f=some z/\f<ops.toList.length:=by
  intro f z l;rw[ck,aeR];refine⟨l,?_⟩;rcases Nat.lt_or_ge f ops.size with h|h
  ·simpa using h
  ·rw[aeY h]at l;cases l
 rw[aeM]at D B C E;have s:∀f,f<(rH ops.toList).m->f∈(rH ops.toList).order:=fun f q=>any_beq.1 (C f (by simpa using q));refine⟨fun f z l U O v=>?_,fun f z l w o=>?_,by simpa using aeZ M,s,fun f q=>aeW.mp (E f q),CB s (aev N),GD L,fun w V W o A J f S q K=>?_,fun f z P l=>?_⟩
 ·obtain⟨n,m⟩:=c _ _ l;have:=D f (by simpa using m);rw[n]at this;simp only[aeM]at this;have:=this U O;rw[v]at this;exact aeW.mp (by simpa using this)
 ·obtain⟨n,m⟩:=c _ _ l;have:=B f (by simpa using m);rw[n]at this;split at this
  ·rename_i T Q F H;cases F;have I:=aev this;unfold jA at o;rw[H]at o;simp only at o;rw[I]at o;rcases GC _ _ o with h|h
   ·simp at h
   ·exact h
  ·cases this
 ·obtain⟨n,m⟩:=c _ _ o;obtain⟨f1,f2⟩:=c _ _ q;unfold NM at x;rw[aeM]at x;have:=x w (by simpa using m);rw[n]at this;simp only[A,Bool.false_or,J,aeM]at this;have:=this f (by simpa using f2);rw[f1]at this;simp only[aeN,aeV]at this;rcases this with h|h
  ·rw[any_beq.2 K]at h;cases h
  ·exact h
 ·obtain⟨n,m⟩:=c _ _ l;unfold Cp at y;rw[aeM]at y;have:=y (f-(rH ops.toList).m) (by simp at m⊢;omega);rw[show(rH ops.toList).m+(f-(rH ops.toList).m)=f from om,n]at this;simp only[abK]at this;refine⟨this.2.1,by simpa using this.2.2,fun w G=>?_⟩;have t:=this.1;unfold jA;split at t
  ·rename_i b v;try rw[v]
   show aeT b w=true;unfold subset at t;have u:=aev t;have p:((2^(rH ops.toList).m-1)&&&b).testBit w=(2^(rH ops.toList).m-1).testBit w:=congrArg (fun R=>aeT R w) u;rw[Nat.testBit_and,Nat.testBit_two_pow_sub_one]at p;simpa [G]using p
  ·cases t
variable{d:Array Value} {k:fX} {i:Value} {j:Nat->Prop} {r:Fr} {e:List Nat}
section
variable{C:dR} {w0:World} {N0:Nat} {G:Nat->Prop} {ρ:Ren} {st:St} {w:World} {ev:Operand->Option Value} {mK:Operand->Value}
def ZC(ρ:Ren)(w:World)(m:Nat)(n:Value)(f:fX)(l:Result Next):Prop:=
 ∃c co h,l=.ok (.value c) {w with heap:=w.heap.push co}/\h.b=w.heap.size/\∀b:Ren,ρ.le b->b m=some h->yj b h f (some co)/\cX b n c
theorem zV{c:List Value}(es q:Nat)(f:TypeId)(l:cT ρ c d.toList){u v':Value}{t:Result Next}(m:t=.ok (.value v') {w with heap:=w.heap.push (.cells d f)}) 
  (p:∀b:Ren,ρ.le b->b q=some ⟨w.heap.size,0,es,d.size⟩->cX b u v'):ZC ρ w q u (.cells c es q 0) t:=by
 refine⟨v',.cells d f,⟨w.heap.size,0,es,d.size⟩,m,Z,fun b h o=>⟨⟨d,f,0,0,Z,Z,Z,?_,fun y A n=>?_,fun y _ v=>om⟩,p b h o⟩⟩
 ·have:=l.length;simp at this;simp;omega
 ·obtain⟨s,z,x⟩:=l.get n;exact⟨s,by simpa using z,x.mono h⟩
theorem Pz(hT:nQ C)(H:oL ρ ev mK){o:Oper}(hm:gh o.op=true){s:St}(h:j8 C ev o ⟨.nil,a,.nil⟩=some (.val i s))(f:s.get a=some k):
  ZC ρ w a i k ((execOp mK o).run C.P w):=by
 have c:∀v:fX,((⟨.nil,a,.nil⟩:St).new v).get a=some v:=fun v=>by rw[dm,if_pos rfl]
 unfold j8 at h;split at h
 case h_4 I gT=>
  unfold xf at h;split at h
  ·rename_i u ht;obtain⟨rfl,rfl⟩:=c9 h;rw[c]at f;cases f;obtain⟨z,hz,p⟩:=mg hT ht w;have t:cT ρ u.zero z.cells.toList:=by rw[p.cells];exact jI (hT.yn _ _ ht) ρ
   refine zV (v':=.pointer (some ⟨w.heap.size,0,none⟩)) u.size a I t ?_ (fun q _ m=>.ptr (l:=⟨w.heap.size,0,u.size,z.cells.size⟩) m);simp only[execOp,gT,Instr.alloc];rw[Sem.run_bind];simp only[Sem.run_bind,hz,Result.andThen_ok,newVar,iz,Sem.run_pure]
  ·cases h
 case h_5 I v gT=>
  split at h
  ·rename_i S O;unfold Li at h;split at h
   ·obtain⟨rfl,rfl⟩:=c9 h;rw[c]at f;cases f;have N:=H _ _ O;refine zV (v':=.pointer (some ⟨w.heap.size,0,none⟩)) _ a I N.cells ?_ (fun q _ m=>.ptr (l:=⟨w.heap.size,0,_,(mK v).cells.size⟩) m);simp only[execOp,gT,Instr.box];rw[Sem.run_bind];simp only[Sem.run_bind,Result.andThen_ok,newVar,iz,Sem.run_pure]
   ·cases h
  ·cases h
 case h_7 I n K gT=>
  split at h
  ·rename_i l M;unfold kf at h;split at h
   ·rename_i u ht;split at h
    ·rename_i x hd;split at h
     ·rename_i te hte;split at h
      ·rename_i T b hf;split at h
       ·rename_i Q;obtain⟨rfl,rfl⟩:=c9 h;rw[c]at f;cases f;simp only[abK]at b;have L:=aeW.mp b.1.1;have R:=aeZ b.1.2;have hzl:=aev b.2;obtain⟨z,hz,p⟩:=mg hT hte w;have F:z.cells.size=te.size:=by rw[<-hzl,<-p.cells];simp
        have D:cT ρ (wo te.zero n) ((Array.range (n*te.size)).map (z.cells[· %z.cells.size]!)).toList:=by
         rw[<-F,Cr,p.cells];exact jI (vE (hT.yn _ _ hte) n) ρ
        have G:AN ρ l (K.map fun(J,v)=>(J,mK v)).toList:=by rw[Array.toList_map];exact uu H M
        obtain⟨A,If,RD⟩:=yo (place':=fun J=>some (J*te.size,te.size)) (fun J v P=>P) G D hf;have y:A.size=n*te.size:=by
         exact aaf
        refine zV (v':=.slice (some ⟨w.heap.size,0,none⟩) n n) te.size a x RD ?_ (fun q _ m=>.slice (l:=⟨w.heap.size,0,te.size,A.size⟩) m (Nat.le_refl _) (by simp[y]));simp only[execOp,gT];rw[Sem.run_bind];exact Ym
       ·cases h
      ·cases h
     ·cases h
    ·cases h
   ·cases h
  ·cases h
 case h_16 I gT=>
  obtain⟨rfl,rfl⟩:=c9 h;rw[c]at f;cases f;refine⟨.map (some w.heap.size),.map #[] 0,⟨w.heap.size,0,0,0⟩,?_,Z,fun q _ m=>⟨⟨#[],Z,tv⟩,.map (l:=⟨w.heap.size,0,0,0⟩) m⟩⟩;simp only[execOp,gT];rfl
 all_goals (exfalso;first|(rename_i gT;rw[gT]at hm;simp[gh]at hm;done)|cases h)
theorem PA{o:Oper}(hm:gh o.op=true){s:St}(h:j8 C ev o st=some (.val i s)):∃b,s=st.new b/\ui st b:=by
 unfold j8 at h;split at h
 case h_4 c gT=>
  unfold xf at h;split at h
  ·obtain⟨rfl,rfl⟩:=c9 h;exact⟨_,rfl,rfl⟩
  ·cases h
 case h_5 c l gT=>
  split at h
  ·unfold Li at h;split at h
   ·obtain⟨rfl,rfl⟩:=c9 h;exact⟨_,rfl,rfl⟩
   ·cases h
  ·cases h
 case h_7 c m f gT=>
  split at h
  ·unfold kf at h;repeat' split at h
   all_goals first|cases h;done|(obtain⟨rfl,rfl⟩:=c9 h;exact⟨_,rfl,rfl⟩)
  ·cases h
 case h_16 c gT=>obtain⟨rfl,rfl⟩:=c9 h;exact⟨_,rfl,tv⟩
 all_goals (exfalso;first|(rename_i gT;rw[gT]at hm;simp[gh]at hm;done)|cases h)
theorem di.SI(f:di w0 N0 G ρ st w)(x:ui st k):di w0 N0 (fun n=>G n∨n=st.n) ρ (st.new k) w:=by
 have t:=f.ij;have c:∀b l,ρ b=some l->b≠st.n:=fun b l h v=>by subst v;rw[t]at h;cases h
 refine⟨f.wf.new x,f.below,f.Fi,?_,fun b l h=>?_,fun b l B h z=>?_,fun b A l D B C p m y q o u=>?_⟩
 ·rintro n (s|rfl)
  ·exact⟨(f.K1 n s).1,Nat.lt_succ_of_lt (f.K1 n s).2⟩
  ·exact⟨t,Nat.lt_succ_self _⟩
 ·have:=f.xT b l h;exact⟨Nat.lt_succ_of_lt this.1,this.2⟩
 ·rw[dm,if_neg (c _ _ h)]at z;exact f.obj _ _ _ h z
 ·rw[dm,if_neg (c _ _ p)]at q;rw[dm,if_neg (c _ _ m)]at o;exact f.sep _ _ _ _ _ _ p m y q o u
theorem di.VW(p:di w0 N0 G ρ st w){co:Obj}{l:Loc}(M:ρ a=none)(N:a<st.n)(A:st.get a=some k)(E:l.b=w.heap.size)(F:yj (ρ.add a l) l k (some co))(J:∀t,j t->G t/\t≠a):
  di w0 N0 j (ρ.add a l) st {w with heap:=w.heap.push co}:=by
 have y:=ei (l:=l) M;have m:∀u,u<w.heap.size->(w.heap.push co)[u]?=w.heap[u]?:=fun u B=>by rw[Array.getElem?_push,if_neg om]
 have H:=p.Fi;refine⟨p.wf,p.below.trans ⟨Z,Z,Z,by simp,fun u B=>m u om⟩,by show N0<=(w.heap.push co).size;simp;omega,fun t K=>?_,fun b o c=>?_,fun b o I c n=>?_,fun b z Q R P O h f L D C q=>?_⟩
 ·obtain⟨h,f⟩:=J t K;have:=p.K1 t h;exact⟨by rw[dU _ _ f];exact this.1,this.2⟩
 ·show b<st.n/\N0<=o.b/\o.b<(w.heap.push co).size;by_cases s:b=a
  ·subst s;rw[c7]at c;cases c;simp;omega
  ·rw[dU _ _ s]at c;have:=p.xT _ _ c;simp;omega
 ·show yj _ o I (w.heap.push co)[o.b]?;by_cases s:b=a
  ·subst s;rw[c7]at c;cases c;rw[A]at n;cases n;rw[E,Array.getElem?_push_size];exact F
  ·rw[dU _ _ s]at c;rw[m _ (p.xT _ _ c).2.2];exact(p.obj _ _ _ c n).mono y
 ·by_cases x:b=a
  ·subst x;rw[c7]at h;cases h;rw[dU _ _ (fun s=>q s.symm)]at f;have:=(p.xT _ _ f).2.2;omega
  ·rw[dU _ _ x]at h;by_cases v:z=a
   ·subst v;rw[c7]at f;cases f;have:=(p.xT _ _ h).2.2;omega
   ·rw[dU _ _ v]at f;exact p.sep _ _ _ _ _ _ h f L D C q
theorem di.wJ(b:di w0 N0 G ρ st w)(f:∀c,j c->G c):di w0 N0 j ρ st w:=
 ⟨b.wf,b.below,b.Fi,fun c h=>b.K1 c (f c h),b.xT,b.obj,b.sep⟩
def pJ(b:Tr Value)(c:List Nat):Tr Value:=c.foldl (fun b f=>b.put f none) b
theorem jJ:∀(b:List Nat) (c:Tr Value) (l:Nat),(pJ c b).get l=if l∈b then none else c.get l:=by
 intro b;induction b with
 |nil=>intro c l;simp[pJ]
 |cons m b n=>
  intro c l;have:pJ c (m::b)=pJ (c.put m none) b:=rfl;rw[this,n,cY];by_cases h:l∈b
  ·rw[if_pos h,if_pos (by simp[h])]
  ·rw[if_neg h];by_cases f:l=m
   ·rw[if_pos f,if_pos (by simp[f])]
   ·rw[if_neg f,if_neg (by simp[h,f])]
def oM(b:Fr)(c:List Nat):Fr:=⟨pJ b.tm c,b.df⟩
theorem LH{xs:List Operand}{t:Tmp}(c:Operand.tmp t∈xs):t∈tmpsOf xs:=by
 induction xs with
 |nil=>simp at c
 |cons f xs b=>
  rcases abL.1 c with rfl|h2
  ·simp[tmpsOf]
  ·cases f<;>simp[tmpsOf,b h2]
theorem zW{ops:List Oper}{o:Oper}(f:∀b∈qu ops o,b ∉ e):∀c∈o.op.operands,jy r c=jy (oM r e) c:=by
 intro c l;cases c with
 |tmp b=>
  have h:b∈qu ops o:=aeQ.2 (.inl (LH (by simpa using l)));show r.tm.get b=(pJ r.tm e).get b;rw[jJ,if_neg (f b h)]
 |_=>rfl
theorem yb{ops:List Oper}{o:Oper}(f:∀q∈qu ops o,q ∉ e):gC ops r o=gC ops (oM r e) o:=by
 unfold gC;split
 ·rfl
 ·rename_i t l n;split
  ·rfl
  ·rename_i s h;split
   ·rfl
   ·rename_i c b;have m:c∈qu ops o:=aeQ.2 (.inr (by simp[n,h,b]));have p:(oM r e).tm.get c=r.tm.get c:=by
     show(pJ r.tm e).get c=_;rw[jJ,if_neg (f c m)]
    rw[p]
end
theorem rJ{C:dR}{ev:Operand->Option Value}{o:Oper}{st s:St}(c:gb o.op=false)(f:gh o.op=false)(h:j8 C ev o st=some (.val i s))(E:s.n=st.n):s=st:=by
 have key:∀{y:Value} {p:St},val y p=some (.val i s)->p=st∨p.n=st.n+1->s=st:=by
  intro y p v h2;obtain⟨_,rfl⟩:=c9 v;rcases h2 with h2|h2
  ·exact h2
  ·omega
 unfold j8 at h;split at h
 case h_28 x b=>
  rw[b]at c;split at h
  ·cases h
  ·split at h
   ·rename_i z n;obtain⟨m,q,l⟩:=x;simp only at n;subst n;unfold j9 at h;split at h<;>first|(simp[gb]at c;done)|skip
    ·unfold yf at h;exact XQ
    ·exact XQ
    ·exact XQ
    ·cases h
   ·rename_i G n;exfalso;obtain⟨m,q,l⟩:=x;simp only at n;subst n;simp[gb]at c
   ·cases h
 case h_29 x b=>rw[b]at c;simp[gb]at c
 case h_30 u b=>rw[b]at c;simp[gb]at c
 case h_2 u b=>rw[b]at c;simp[gb]at c
 case h_9 t F u b=>rw[b]at c;simp[gb]at c
 case h_24 t w B D b=>rw[b]at c;simp[gb]at c
 case h_25 t w B D b=>rw[b]at c;simp[gb]at c
 case h_4 t b=>rw[b]at f;simp[gh]at f
 case h_5 t u b=>rw[b]at f;simp[gh]at f
 case h_7 t H A b=>rw[b]at f;simp[gh]at f
 case h_16 t b=>rw[b]at f;simp[gh]at f
 case h_31=>cases h
 all_goals
  first
  |unfold xc at h
  |unfold ye at h
  |unfold ng at h
  |unfold ig at h
  |unfold gU at h
  |unfold jn at h
  |unfold pA at h
  |unfold fI at h
  |unfold xh at h
  |unfold gv at h
  |unfold ue at h
  |unfold qs at h
  |unfold jg at h
  |unfold pB at h
  |skip
  repeat' split at h
  all_goals first|cases h;done|exact key h (.inl rfl)|exact key h (.inr rfl)
def wK(ops:Array Oper)(b:Nat):Option Tmp:=(ops[b]?).bind (·.dst)
def gg(ops:Array Oper)(D:Nat->Bool)(b:List Nat):List Nat:=(b.filter fun c=> !D c).filterMap (wK ops)
theorem nU{ops:Array Oper}{D:Nat->Bool}{t:Nat}:t∈gg ops D e↔∃f∈e,D f=false/\wK ops f=some t:=by
 unfold gg;rw[List.mem_filterMap];constructor
 ·rintro⟨f,b,c⟩;rw[aeP]at b;exact⟨f,b.1,by simpa using b.2,c⟩
 ·rintro⟨f,b,h,c⟩;exact⟨f,aeP.2 ⟨b,by simp[h]⟩,c⟩
def CC(G:Nat->Prop)(D:Nat->Bool)(b:List tJ):Nat->Prop:=fun f=>G f∨∃h l c,tJ.obj h l f c∈b/\D h=false
variable{g:List Deferred}
section
variable{C:dR} {w0:World} {N0:Nat} {G:Nat->Prop} {fc:FC} {b:FB} {rc:Rec} {ops:Array Oper} {bs:List Nat} {m:Nat} {order:List Nat}
structure Down (ops:Array Oper) (D:Nat->Bool):Prop where
 xT:∀i,D i=true->i<ops.size
 closed:∀i o,D i=true->ops[i]?=some o->∀e∈o.after.toList,Region.binds .any e=true->D e.on=true
theorem Down.bits{D:Nat->Bool}(s:Down ops D)(n:iV ops bs m order):∀b p,D b=true->jA bs b p=true->D p=true:=by
 intro b;induction b using Nat.strongRecOn with
 |_ b t=>
  intro p l u;have o:=s.xT b l;have f:ops[b]?=some ops[b]:=aet o;obtain⟨q,h,c,h1|h1⟩:=n.bits b _ f p u
  ·rw[<-h1];exact s.closed b _ l f q h c
  ·exact t q.on (n.back b _ f q h c) p (s.closed b _ l f q h c) h1
theorem Down.ready{D:Nat->Bool}(s:Down ops D)(h:iV ops bs m order){o:Oper}(p:ops[a]?=some o)(l:∀f∈o.after.toList,Region.binds .any f=true->D f.on=true){n:Nat}(q:jA bs a n=true):D n=true:=by
 obtain⟨f,c,b,h1|h1⟩:=h.bits a _ p n q
 ·rw[<-h1];exact l f c b
 ·exact s.bits h f.on n (l f c b) h1
theorem Down.add{D:Nat->Bool}(s:Down ops D){o:Oper}(l:ops[a]?=some o)(q:∀n∈o.after.toList,Region.binds .any n=true->D n.on=true):Down ops (fun x=>D x||x==a):=by
 refine⟨fun x b=>?_,fun x p b c n f h=>?_⟩
 ·simp only[aeN,beq_iff_eq]at b;rcases b with b|rfl
  ·exact s.xT x b
  ·rcases Nat.lt_or_ge x ops.size with m|m
   ·exact m
   ·rw[aeY m]at l;cases l
 ·simp only[aeN,beq_iff_eq]at b⊢;rcases b with b|rfl
  ·exact .inl (s.closed x p b c n f h)
  ·rw[l]at c;cases c;exact .inl (q n f h)
structure Inv (w0:World) (N0:Nat) (G:Nat->Prop) (ops:Array Oper) (bs:List Nat) (m:Nat) (fc:FC) (b:FB) (D:Nat->Bool) (pre:List Nat) (bb:Nat) (I1:List tJ) (fr:Fr) (ps:dW) (st:St) (ρ:Ren) (w:World) (tm:Array Value) (df:List Deferred) (cs:List Frame):Prop where
 down:Down ops D
 sub:∀i,D i=true->i<m->i∈pre
 PB:∀i∈pre,iO ops.toList i=true->D i=true
 cover:∀i∈pre,iO ops.toList i=false->∃c∈I1,c.idx=i
 SJ:∀j,aeT bb j=true->∃e,D e=true/\jA bs e j=true
 LI:∀i v N ob,tJ.obj i v N ob∈I1->D i=false->N<st.n
 I2:∀i v N ob i' v' ob',tJ.obj i v N ob∈I1->tJ.obj i' v' N ob'∈I1->D i=false->D i'=false->i=i'
 aaC:∀c∈I1,iO ops.toList c.idx=false/\c.idx∈pre
 ee:∀c∈I1,∀d,wK ops c.idx=some d->d<fc.nt
 PC:∀i v N ob,tJ.obj i v N ob∈I1->¬G N
 world:di w0 N0 (CC G D I1) ρ st w
 frame:lz ρ fc (oM fr (gg ops D pre)) b tm df
 eH:uv ρ fc.DZ ps cs
theorem LJ{c:Fr}{b:Option Tmp}(f:gV a r b i=some c):c.df=r.df/\(∀m,b≠some m->c.tm.get m=r.tm.get m)/\∀h,b=some h->h<a:=by
 unfold gV at f;split at f
 ·cases f;exact⟨rfl,(fun _ _=>rfl),(fun h n=>by cases n)⟩
 ·rename_i h;split at f
  ·rename_i l;cases f;refine⟨Z,fun m o=>?_,fun p n=>by cases n;exact aeW.mp l⟩;show(r.tm.set h i).get m=_;rw[cB,if_neg (fun n=>o (by rw[n]))]
  ·cases f
theorem lz.sub{ρ:Ren}{c fr':Fr}(f:lz ρ fc c b d g)(h:fr'.df=c.df)(n:∀o l,fr'.tm.get o=some l->c.tm.get o=some l):lz ρ fc fr' b d g:=
 ⟨f.fn,f.round,f.kind,⟨f.tm.1,fun p l m=>f.tm.2 p l (n p l m)⟩,by rw[h];exact f.df⟩
theorem advance(aB:iV ops bs m order){D:Nat->Bool}{S:dW}{ah:Ex×Fr×dW×St}{ρ:Ren}{w:World}{aq:List Frame}:
  ∀(t h:List Nat) (c:List tJ) (J:Fr) (st:St),order=h++t->eM C rc fc ops.toList bs t a c J S st=some ah->Inv w0 N0 G ops bs m fc b D h a c J S st ρ w d g aq->
  ∃i v L af aj,order=i++v/\eM C rc fc ops.toList bs v a L af S aj=some ah/\Inv w0 N0 G ops bs m fc b D i a L af S aj ρ w d g aq/\(v=[]∨∃o ax,v=o::ax/\iO ops.toList o=true):=by
 intro t;induction t with
 |nil=>intro h c J st P E f;exact⟨h,[],c,J,st,P,E,f,.inl rfl⟩
 |cons z ax al=>
  intro h c J st P E f;cases A:iO ops.toList z with
  |true=>exact⟨h,z::ax,c,J,st,P,E,f,.inr ⟨z,ax,rfl,A⟩⟩
  |false=>
   have X:order=(h++[z])++ax:=by rw[P];simp
   have ad:z ∉ h:=by
    have:=aB.nodup;rw[P,List.nodup_append]at this;intro ao;exact this.2.2 z ao z sm Z
   have ay:z<m:=aB.lt z (by rw[P];simp);have av:D z=false:=by
    cases n:D z with
    |false=>rfl
    |true=>exact absurd (f.sub z n ay) ad
   rw[eM]at E;split at E
   ·rename_i aF aN W aK;rw[ck,aeR]at W;have ak:gb aF.op=false:=by
     unfold iO at A;rw[ck,aeR,W]at A;exact A
    have T:wK ops z=aF.dst:=by unfold wK;rw[W];rfl
    simp only[ak]at E;have H:∀(k:tJ) (l:Fr) (F:St) (ac:Value),k.idx=z->gV fc.nt J aF.dst ac=some l->
      (∀q s I x,tJ.obj q s I x∈k::c->D q=false->I<F.n)->(∀R j I N Q aa B,tJ.obj R j I N∈k::c->tJ.obj Q aa I B∈k::c->D R=false->D Q=false->R=Q)->
      (∀q s I x,tJ.obj q s I x∈k::c->¬G I)->di w0 N0 (CC G D (k::c)) ρ F w->Inv w0 N0 G ops bs m fc b D (h++[z]) a (k::c) l S F ρ w d g aq:=by
     intro k l F ac an y ab r ae U;obtain⟨aw,am,az⟩:=LJ y;refine⟨f.down,fun ap p au=>by simp[f.sub ap p au],fun ap p K=>?_,fun ap p K=>?_,f.SJ,ab,r,fun e u=>?_,fun e u aJ n=>?_,ae,U,?_,f.eH⟩
     ·rcases aeQ.1 p with p|p
      ·exact f.PB ap p K
      ·simp at p;subst p;rw[A]at K;cases K
     ·rcases aeQ.1 p with p|p
      ·obtain⟨e,u,aI⟩:=f.cover ap p K;exact⟨e,by simp[u],aI⟩
      ·simp at p;subst p;exact⟨k,by simp,an⟩
     ·rcases abL.1 u with rfl|u
      ·rw[an];exact⟨A,by simp⟩
      ·obtain⟨h1,h2⟩:=f.aaC e u;exact⟨h1,by simp[h2]⟩
     ·rcases abL.1 u with rfl|u
      ·rw[an,T]at n;exact az aJ n
      ·exact f.ee e u aJ n
     ·refine f.frame.sub (fr':=oM l (gg ops D (h++[z]))) aw fun aD aL aH=>?_;have M:(pJ l.tm (gg ops D (h++[z]))).get aD=some aL:=aH;rw[jJ]at M;split at M
      ·cases M
      ·rename_i ai;show(pJ J.tm (gg ops D h)).get aD=some aL;have h1:aD ∉ gg ops D h:=fun hm=>ai (by
        rw[nU]at hm⊢;obtain⟨ap,p,n,K⟩:=hm;exact⟨ap,by simp[p],n,K⟩)
       have h2:aF.dst≠some aD:=fun o=>ai (by
        rw[nU];exact⟨z,by simp,av,by rw[T];exact o⟩)
       rw[jJ,if_neg h1,<-am aD h2];exact M
    split at E
    ·cases E
    ·rename_i aC;split at E
     ·rename_i l y;exact al (h++[z]) (.skip z::c) l st X E (H (.skip z) l st lr Z y
       (fun q s I x hm n=>by rcases abL.1 hm with o|hm;cases o;exact f.LI _ _ _ _ hm n)
       (fun R j I N Q aa B h1 h2 d1 d2=>by
        rcases abL.1 h1 with o|h1
        ·cases o
        ·rcases abL.1 h2 with o|h2
         ·cases o
         ·exact f.I2 _ _ _ _ _ _ _ h1 h2 d1 d2)
       (fun q s I x hm=>by rcases abL.1 hm with o|hm;cases o;exact f.PC _ _ _ _ hm)
       (f.world.wJ (by
        rintro aM (V|⟨q,s,x,hm,n⟩)
        ·exact .inl V
        ·rcases abL.1 hm with o|hm
         ·cases o
         ·exact .inr ⟨q,s,x,hm,n⟩)))
     ·cases E
    ·rename_i aC;split at E
     ·rename_i ac F aA;split at E
      ·cases E
      ·rename_i l y;split at E
       ·rename_i Y;obtain⟨O,rfl,ar⟩:=PA Y aA;split at E
        ·rename_i x ag;rw[dm,if_pos rfl]at ag;cases ag;exact al (h++[z]) (.obj z ac st.n O::c) l (st.new O) X E (H (.obj z ac st.n O) l (st.new O) ac Z y
          (fun q s I B hm n=>by
           show I<st.n+1;rcases abL.1 hm with o|hm
           ·cases o;omega
           ·have:=f.LI _ _ _ _ hm n;omega)
          (fun R j I N Q aa B h1 h2 d1 d2=>by
           rcases abL.1 h1 with o|h1
           ·cases o;rcases abL.1 h2 with o|h2
            ·cases o;rfl
            ·have:=f.LI _ _ _ _ h2 d2;omega
           ·rcases abL.1 h2 with o|h2
            ·cases o;have:=f.LI _ _ _ _ h1 d1;omega
            ·exact f.I2 _ _ _ _ _ _ _ h1 h2 d1 d2)
          (fun q s I x hm=>by
           rcases abL.1 hm with o|hm
           ·cases o;exact fun aG=>absurd (f.world.K1 _ (.inl aG)).2 (Nat.lt_irrefl _)
           ·exact f.PC _ _ _ _ hm)
          ((f.world.SI ar).wJ (by
           rintro aM (V|⟨q,s,B,hm,n⟩)
           ·exact .inl (.inl V)
           ·rcases abL.1 hm with o|hm
            ·cases o;exact .inr rfl
            ·exact .inl (.inr ⟨q,s,B,hm,n⟩))))
        ·cases E
       ·rename_i Y;split at E
        ·rename_i aE;have:=rJ ak Y aA (aev aE);subst this;exact al (h++[z]) (.val z ac::c) l F X E (H (.val z ac) l F ac Z y
          (fun q s I x hm n=>by rcases abL.1 hm with o|hm;cases o;exact f.LI _ _ _ _ hm n)
          (fun R j I N Q aa B h1 h2 d1 d2=>by
           rcases abL.1 h1 with o|h1
           ·cases o
           ·rcases abL.1 h2 with o|h2
            ·cases o
            ·exact f.I2 _ _ _ _ _ _ _ h1 h2 d1 d2)
          (fun q s I x hm=>by rcases abL.1 hm with o|hm;cases o;exact f.PC _ _ _ _ hm)
          (f.world.wJ (by
           rintro aM (V|⟨q,s,x,hm,n⟩)
           ·exact .inl V
           ·rcases abL.1 hm with o|hm
            ·cases o
            ·exact .inr ⟨q,s,x,hm,n⟩)))
        ·cases E
     ·cases E
   ·cases E
end
end Go.AM
