/- Part of the proof. -/
import Derived.Test.YtpejealjkmhkgaaGreatDoorKAe
set_option linter.all false
set_option maxHeartbeats 16000000
set_option maxRecDepth 100000
open Array renaming toList_map->YL,getElem?_toList->YN,toList_append->YO
open List renaming range->YM
namespace Go.AM
open Go.RowKit (Below)
variable{r:List Value} {n:Array Value} {D:AR} {A:Sem Value} {p:World}
section
variable{C:dU} {w0:World} {N0:Nat} {G:Nat->Prop} {ρ:Ren} {st dI:St} {w:World} {v:Value} {ev:Operand->Option Value} {lq:Operand->Value}
theorem qn(d:mJ ρ ev lq):∀{a:List Operand} {b:List Value},lD ev a=some b->cU ρ b (a.map lq):=by
 intro a;induction a with
 |nil=>intro b c;simp[lD]at c;subst c;exact .nil
 |cons i a e=>
  intro b c;simp only[lD]at c;split at c
  ·rename_i k l h f;cases c;exact .cons (d _ _ h) (e f)
  ·cases c
theorem r9(e:mJ ρ ev lq):∀{a:List (Nat×Operand)} {b:List (Nat×Value)},kQ ev a=some b->yd ρ b (a.map fun(k,d)=>(k,lq d)):=by
 intro a;induction a with
 |nil=>intro b c;simp[kQ]at c;subst c;exact .nil
 |cons d a f=>
  obtain⟨k,d⟩:=d;intro b c;simp only[kQ]at c;split at c
  ·rename_i l o i h;cases c;exact .cons (e _ _ i) (f h)
  ·cases c
theorem pq.value{e:Result Value}{f:Result Next}(h:pq w0 N0 G ρ dI v e)(d:f=e.andThen fun i w=>.ok (Next.value i) w):yg C w0 N0 G ρ st w (.val v dI) f:=by
 obtain⟨a,b,c,l,k⟩:=h;subst l;exact⟨a,b,c,.inl (by rw[d];rfl),k⟩
theorem pt(h:Cy C){f:FuncId}{e:FI}(i:C.ff.get f=some e)(a:Array Value):(callFunc f a).run C.P w=.ok (.enter f a) w:=by
 obtain⟨fn,c,b,_,_,d⟩:=h.fn _ _ i;unfold callFunc;rw[b5 _ (show(program).run C.P w=.ok C.P w from rfl),c];simp only[d,Bool.false_eq_true,if_false,b,Option.isNone_some];rfl
theorem BG(N:Cy C)(O:mb C){f x:Value}(P:dj w0 N0 G ρ st w)(v:cY ρ f x)(d:cU ρ r n.toList)(e:kp C f r st=some D):
  yg C w0 N0 G ρ st w D ((do let l<-Deferred.ofValue x n;invoke l.target l.args:Sem Next).run C.P w):=by
 unfold kp at e;split at e
 ·rename_i T first c
  cases v with
  |@func _ _ b _ a h q=>
  have k:cU ρ (first.toList++r++c.toList) (b++n++a).toList:=by
   simp only[YO];exact(h.append d).append q
  have o:(do let l<-Deferred.ofValue (.func (.func T) b a) n;invoke l.target l.args:Sem Next).run C.P w=(callFunc T (b++n++a)).run C.P w:=rfl;rw[o];simp only at e;split at e
  ·rename_i V y;cases e;exact⟨_,pt N y _,k⟩
  ·split at e
   ·rename_i U R;cases e;obtain⟨S,M⟩:=O _ _ _ R ρ _ w k;exact⟨ρ,U,w,.inl S,Ren.le_refl _,P,M⟩
   ·cases e
 ·rename_i W first c
  cases v with
  |@yield _ F _ b _ a Q h q=>
  split at e
  ·rename_i i;cases e;rw[i]at h;have t:b= #[]:=by
    cases s:b.toList with
    |nil=>exact Array.toList_eq_nil_iff.1 s
    |cons _ _=>rw[s]at h;cases h
   subst t;refine⟨F,n,Q,d,?_⟩;have:(do let l<-Deferred.ofValue (.func (.yield F.b) #[] a) n;invoke l.target l.args:Sem Next).run C.P w=(Instr.yield F.b (#[]++n)).run C.P w:=rfl;rw[this,Array.empty_append]
  ·cases e
 ·cases e
theorem LV{f e:Value}(i:cY ρ f e)(a:cU ρ r n.toList)(h:zH f r=some D):
  yg C w0 N0 G ρ st w D ((do pure (.defer (<-Deferred.ofValue e n)):Sem Next).run C.P w):=by
 unfold zH at h;split at h
 ·rename_i o first c
  cases h;cases i with
  |@func _ _ d _ b l k=>
  refine⟨_,Z,⟨Z,k⟩,?_⟩;simp only[YO];exact l.append a
 ·cases h
theorem xl(e:mJ ρ ev lq){a:Option Operand}{l:Option Value}(c:(match a with|none=>some none|some l=>(ev l).map some)=some l):
  (l=none/\a.map lq=none)∨∃f d,l=some f/\a.map lq=some d/\cY ρ f d:=by
 cases a with
 |none=>cases c;exact .inl ⟨rfl,rfl⟩
 |some a=>
  simp only at c;cases b:ev a with
  |none=>rw[b]at c;cases c
  |some h=>rw[b]at c;cases c;exact .inr ⟨h,lq a,rfl,rfl,e _ _ b⟩
theorem Ts(C:dU)(b:Builtin)(c:List TypeId)(e:List Value)(d:AR)(a:iE C b c e st=some d):(∃f dI,d=.val f dI)∨d=.recover:=by
 unfold iE at a;split at a
 ·unfold mV at a;repeat' split at a
  all_goals first|cases a;done|skip
  unfold fv at a;repeat' split at a
  all_goals first|cases a;done|(unfold val at a;cases a;exact .inl ⟨_,_,rfl⟩)
 ·unfold Fj at a;repeat' split at a
  all_goals first|cases a;done|(unfold val at a;cases a;exact .inl ⟨_,_,rfl⟩)
 ·unfold vw at a;repeat' split at a
  all_goals first|cases a;done|(unfold val at a;cases a;exact .inl ⟨_,_,rfl⟩)
 ·repeat' split at a
  all_goals first|cases a;done|(unfold val at a;cases a;exact .inl ⟨_,_,rfl⟩)
 ·repeat' split at a
  all_goals first|cases a;done|(unfold val at a;cases a;exact .inl ⟨_,_,rfl⟩)
 ·cases a;exact .inr rfl
 ·cases a
theorem FG(o:l6 C)(h:dj w0 N0 G ρ st w){b:Builtin}{c:Array TypeId}{f:TypeId}{cs:Array Bool}(d:cU ρ r n.toList)(a:iE C b c.toList r st=some D):
  yg C w0 N0 G ρ st w D ((builtin b c f cs n).run C.P w):=by
 rcases Ts C b _ _ _ a with⟨y,s,rfl⟩|rfl
 ·unfold iE at a;split at a
  ·exact pq.value (Iq o h (ty:=f) d a) (Sem.run_bind ..)
  ·exact pq.value (Ox o h (ty:=f) d a) (Sem.run_bind ..)
  ·obtain⟨i,k,rfl⟩:=Rx (ty:=f) o h d a;exact pq.value (C:=C) (w:=w) (pq.same h k) (by
    show(do pure (.value (<-Builtin.len_ c f n)):Sem Next).run C.P w=_;rw[Sem.run_bind,i];rfl)
  ·split at a
   ·rename_i x v;split at a
    ·rename_i t q;obtain⟨rfl,rfl⟩:=c7 a;obtain⟨n⟩:=n;cases d with
     |cons hx l=>
      obtain⟨i,k⟩:=FD (P:=C.P) (w:=w) l hx q;exact pq.value (C:=C) (w:=w) (pq.same h k) (by
       show(do pure (.value (<-List.foldlM Builtin.max2 _ _)):Sem Next).run C.P w=_;rw[Sem.run_bind,i];rfl)
    ·cases a
   ·cases a
  ·split at a
   ·rename_i x v;split at a
    ·rename_i t q;obtain⟨rfl,rfl⟩:=c7 a;obtain⟨n⟩:=n;cases d with
     |cons hx l=>
      obtain⟨i,k⟩:=FF (P:=C.P) (w:=w) l hx q;exact pq.value (C:=C) (w:=w) (pq.same h k) (by
       show(do pure (.value (<-List.foldlM Builtin.min2 _ _)):Sem Next).run C.P w=_;rw[Sem.run_bind,i];rfl)
    ·cases a
   ·cases a
  ·cases a
  ·cases a
 ·unfold iE at a;split at a
  ·exfalso;rcases Ts C .append _ _ _ (by unfold iE;exact a)with⟨_,_,e⟩|_<;>first|cases e|skip
   unfold mV at a;repeat' split at a
   all_goals first|cases a;done|skip
   unfold fv at a;repeat' split at a
   all_goals first|cases a;done|(unfold val at a;cases a)
  ·exfalso;unfold Fj at a;repeat' split at a
   all_goals first|cases a;done|(unfold val at a;cases a)
  ·exfalso;unfold vw at a;repeat' split at a
   all_goals first|cases a;done|(unfold val at a;cases a)
  ·exfalso;repeat' split at a
   all_goals first|cases a;done|(unfold val at a;cases a)
  ·exfalso;repeat' split at a
   all_goals first|cases a;done|(unfold val at a;cases a)
  ·rfl
  ·cases a
theorem fJ(b:dj w0 N0 G ρ st w){a:Value}(d:A.run C.P w=.ok a w)(c:cY ρ v a):yg C w0 N0 G ρ st w (.val v st) ((do pure (.value (<-A)):Sem Next).run C.P w):=
 ⟨ρ,a,w,.inl (by rw[b5 _ d];rfl),Ren.le_refl _,b,c⟩
theorem pM(a:pq w0 N0 G ρ dI v (A.run C.P w)):yg C w0 N0 G ρ st w (.val v dI) ((do pure (.value (<-A)):Sem Next).run C.P w):=pq.value a (Sem.run_bind ..)
theorem zQ{c:Sem Unit}(a:c.run C.P w=.ok () p)(b:dj w0 N0 G ρ dI p):yg C w0 N0 G ρ st w (.val kn dI) ((do c;pure .skip:Sem Next).run C.P w):=
 ⟨ρ,undef,p,.inr ⟨by rw[b5 _ a];rfl,rfl⟩,Ren.le_refl _,b,.tuple .nil⟩
theorem oH(y:l6 C)(H:Cy C)(I:mb C)(f:dj w0 N0 G ρ st w)(d:mJ ρ ev lq){o:Oper}(a:h0 C ev o st=some D):yg C w0 N0 G ρ st w D ((execOp lq o).run C.P w):=by
 unfold h0 at a;split at a
 case h_1 P c=>
  split at a
  ·rename_i h e;unfold val at a;cases a;simp only[execOp,c];exact⟨ρ,_,w,.inl Z,Ren.le_refl _,f,d _ _ e⟩
  ·cases a
 case h_2 P c=>
  split at a
  ·rename_i h e;unfold val at a;cases a;simp only[execOp,c];exact⟨ρ,_,w,.inl Z,Ren.le_refl _,f,d _ _ e⟩
  ·cases a
 case h_3 U m b c=>
  split at a
  ·rename_i Q h v O Y W;unfold val at a;cases a;have j:=d _ _ O;simp only[execOp,c];cases A:lq U<;>rw[A]at j<;>cases j;cases Q
   ·exact⟨ρ,_,w,.inl Z,Ren.le_refl _,f,d _ _ W⟩
   ·exact⟨ρ,_,w,.inl Z,Ren.le_refl _,f,d _ _ Y⟩
  ·cases a
 case h_4 Q c=>
  have x:∃h s,D=.val h s:=by unfold uG val at a;split at a<;>cases a;exact⟨_,_,rfl⟩
  obtain⟨h,s,rfl⟩:=x;simp only[execOp,c];exact pM (LD y f a)
 case h_5 Q P c=>
  split at a
  ·rename_i h e;have x:∃h s,D=.val h s:=by unfold H5 val at a;split at a<;>cases a;exact⟨_,_,rfl⟩
   obtain⟨h,s,rfl⟩:=x;simp only[execOp,c];exact pM (Rs f (d _ _ e) a)
  ·cases a
 case h_6 Q ps c=>
  split at a
  ·rename_i l X;have x:∃h s,D=.val h s:=by
    unfold rQ val at a;repeat' split at a
    all_goals first|cases a;done|(cases a;exact⟨_,_,rfl⟩)
   obtain⟨h,s,rfl⟩:=x;simp only[execOp,c];obtain⟨R,q,t,rfl⟩:=LH (w:=w) (ps':=ps.map fun(B,P)=>(B,lq P)) y f (by rw[YL];exact r9 d X) a;exact fJ f q t
  ·cases a
 case h_7 Q aq ps c=>
  split at a
  ·rename_i l X;have x:∃h s,D=.val h s:=by
    unfold jh val at a;repeat' split at a
    all_goals first|cases a;done|(cases a;exact⟨_,_,rfl⟩)
   obtain⟨h,s,rfl⟩:=x;simp only[execOp,c];exact pM (zL y f (by rw[YL];exact r9 d X) a)
  ·cases a
 case h_8 Q m c=>
  split at a
  ·rename_i h e;have x:∃h s,D=.val h s:=by
    unfold vv val at a;repeat' split at a
    all_goals first|cases a;done|(cases a;exact⟨_,_,rfl⟩)
   obtain⟨h,s,rfl⟩:=x;simp only[execOp,c];obtain⟨R,q,t,rfl⟩:=Fp y f (d _ _ e) a;exact fJ f q t
  ·cases a
 case h_9 Q m P c=>
  split at a
  ·rename_i h aj e p;have x:∃h s,D=.val h s:=by
    unfold hH val at a;repeat' split at a
    all_goals first|cases a;done|(cases a;exact⟨_,_,rfl⟩)
   obtain⟨h,s,rfl⟩:=x;simp only[execOp,c];obtain⟨n,q,t,rfl,_⟩:=LF y f (d _ _ e) (d _ _ p) a;exact zQ q t
  ·cases a
 case h_10 P c=>
  split at a
  ·rename_i h e;have x:∃h s,D=.val h s:=by
    unfold lE val at a;repeat' split at a
    all_goals first|cases a;done|(cases a;exact⟨_,_,rfl⟩)
   obtain⟨F,s,rfl⟩:=x;have N:=d _ _ e;obtain⟨rfl,rfl,ao,ap,ag,ah⟩:=Dw N a;simp only[execOp,c];refine⟨ρ,lq P,w,.inl ?_,Ren.le_refl _,f,N⟩;generalize lq P=J at*;rfl
  ·cases a
 case h_11 aa Q P J ak c=>
  split at a
  ·rename_i h v e x;split at a
   ·rename_i af N;unfold val at a;cases a;obtain⟨q,t⟩:=Rw (w:=w) y (d _ _ e) (d _ _ x) N;simp only[execOp,c];exact fJ f q t
   ·cases a
  ·cases a
 case h_12 aa Q P c=>
  split at a
  ·rename_i h e;split at a
   ·rename_i af N;unfold val at a;cases a;obtain⟨q,t⟩:=T0 (C:=C) (w:=w) (d _ _ e) N;simp only[execOp,c];exact fJ f q t
   ·cases a
  ·cases a
 case h_13 s g P c=>
  split at a
  ·rename_i h e;have x:∃h s,D=.val h s:=by
    unfold gW val at a;repeat' split at a
    all_goals first|cases a;done|(cases a;exact⟨_,_,rfl⟩)
   obtain⟨F,M,rfl⟩:=x;simp only[execOp,c];exact pM (Fy y f (d _ _ e) a)
  ·cases a
 case h_14 Q P c=>
  split at a
  ·rename_i h e;have x:∃h s,D=.val h s:=by
    unfold gH val at a;repeat' split at a
    all_goals first|cases a;done|(cases a;exact⟨_,_,rfl⟩)
   obtain⟨F,M,rfl⟩:=x;simp only[execOp,c];obtain⟨q,t,rfl,ac⟩:=vG (w:=w) y (d _ _ e) a;exact fJ f q ac
  ·cases a
 case h_15 fn m b c=>
  split at a
  ·rename_i h v E e x;unfold val at a;cases a;simp only[execOp,c,Instr.makeFunc];refine⟨ρ,.func fn (m.map lq) (b.map lq),w,.inl Z,Ren.le_refl _,f,?_⟩;cases fn<;>first|(simp[TX]at E;done)|skip
   exact .func _ (by rw[YL];exact qn d e) (by rw[YL];exact qn d x)
  ·cases a
 case h_16 Q c=>
  unfold val at a;cases a;simp only[execOp,c];refine⟨ρ.add st.n ⟨w.heap.size,0,0,0⟩,.map (some w.heap.size),{w with heap:=w.heap.push (.map #[] 0)},.inl Z,er f.gY,f.new Z trivial ⟨#[],Z,tv⟩,?_⟩;exact .map (l:=⟨w.heap.size,0,0,0⟩) (c6 _ _ _)
 case h_17 Q l U c=>
  split at a
  ·rename_i h v e x;have i:∃h s,D=.val h s:=by
    unfold iq val at a;repeat' split at a
    all_goals first|cases a;done|(cases a;exact⟨_,_,rfl⟩)
   obtain⟨F,M,rfl⟩:=i;simp only[execOp,c];exact pM (BF y f (d _ _ e) (d _ _ x) a)
  ·cases a
 case h_18 Q P ai an al c=>
  split at a
  ·rename_i h l am ae e X u ab;have i:∃h s,D=.val h s:=by
    unfold nD val at a;repeat' split at a
    all_goals first|cases a;done|(cases a;exact⟨_,_,rfl⟩)
   obtain⟨F,M,rfl⟩:=i;simp only[execOp,c];obtain⟨R,q,t,rfl⟩:=LU (w:=w) y f (d _ _ e) (xl d X) (xl d u) (xl d ab) a;exact fJ f q t
  ·cases a
 case h_19 Q P r c=>
  split at a
  ·rename_i h e;have i:∃h s,D=.val h s:=by
    unfold fa val at a;repeat' split at a
    all_goals first|cases a;done|(cases a;exact⟨_,_,rfl⟩)
   obtain⟨F,M,rfl⟩:=i;simp only[execOp,c];obtain⟨R,q,t,rfl⟩:=BD (w:=w) y (d _ _ e) a;exact fJ f q t
  ·cases a
 case h_20 Q P r c=>
  split at a
  ·rename_i h e;have i:∃h s,D=.val h s:=by
    unfold uI val at a;repeat' split at a
    all_goals first|cases a;done|(cases a;exact⟨_,_,rfl⟩)
   obtain⟨F,M,rfl⟩:=i;simp only[execOp,c];obtain⟨R,q,t,rfl⟩:=LP (w:=w) y (d _ _ e) a;exact fJ f q t
  ·cases a
 case h_21 Q P B c=>
  split at a
  ·rename_i h v e x;have i:∃h s,D=.val h s:=by
    unfold gf val at a;repeat' split at a
    all_goals first|cases a;done|(cases a;exact⟨_,_,rfl⟩)
   obtain⟨F,M,rfl⟩:=i;simp only[execOp,c];obtain⟨R,q,t,rfl⟩:=BE (w:=w) y (d _ _ e) (d _ _ x) a;exact fJ f q t
  ·cases a
 case h_22 Q P B c=>
  split at a
  ·rename_i h v e x;have i:∃h s,D=.val h s:=by
    unfold rU val at a;repeat' split at a
    all_goals first|cases a;done|(cases a;exact⟨_,_,rfl⟩)
   obtain⟨F,M,rfl⟩:=i;simp only[execOp,c];obtain⟨R,q,t,rfl⟩:=LQ (w:=w) y (d _ _ e) (d _ _ x) a;exact fJ f q t
  ·cases a
 case h_23 Q P B K c=>
  split at a
  ·rename_i h v e x;have i:∃h s,D=.val h s:=by
    unfold oA val at a;repeat' split at a
    all_goals first|cases a;done|(cases a;exact⟨_,_,rfl⟩)
   obtain⟨F,M,rfl⟩:=i;simp only[execOp,c];obtain⟨R,q,t,rfl⟩:=Ir (w:=w) y f (d _ _ e) (d _ _ x) a;exact fJ f q t
  ·cases a
 case h_24 Q ae k J c=>
  split at a
  ·rename_i m b U Y W O;have i:∃h s,D=.val h s:=by
    unfold ir val at a;repeat' split at a
    all_goals first|cases a;done|(cases a;exact⟨_,_,rfl⟩)
   obtain⟨F,M,rfl⟩:=i;simp only[execOp,c];obtain⟨n,q,t,rfl,_⟩:=ue y f (d _ _ Y) (d _ _ W) (d _ _ O) a;exact zQ q t
  ·cases a
 case h_25 Q ae k J c=>
  split at a
  ·rename_i m b U Y W O;have i:∃h s,D=.val h s:=by
    unfold ir val at a;repeat' split at a
    all_goals first|cases a;done|(cases a;exact⟨_,_,rfl⟩)
   obtain⟨F,M,rfl⟩:=i;simp only[execOp,c];obtain⟨n,q,t,rfl,_⟩:=ue y f (d _ _ Y) (d _ _ W) (d _ _ O) a;exact zQ q t
  ·cases a
 case h_26 P z Q K c=>
  split at a
  ·rename_i h e;have i:∃h s,D=.val h s:=by
    unfold ik val at a;repeat' split at a
    all_goals first|cases a;done|(cases a;exact⟨_,_,rfl⟩)
   obtain⟨F,M,rfl⟩:=i;simp only[execOp,c];obtain⟨R,q,t,rfl⟩:=zO (w:=w) (xt:=z) y (d _ _ e) a;exact fJ f q t
  ·cases a
 case h_27 P B c=>
  split at a
  ·rename_i h e;have i:∃h s,D=.val h s:=by
    unfold nE val at a;repeat' split at a
    all_goals first|cases a;done|(cases a;exact⟨_,_,rfl⟩)
   obtain⟨F,M,rfl⟩:=i;simp only[execOp,c];obtain⟨R,q,t,rfl⟩:=Fw (C:=C) (w:=w) (d _ _ e) a;exact fJ f q t
  ·cases a
 case h_28 U c=>
  split at a
  ·cases a
  ·rename_i V T;have S:cU ρ V (U.args.map lq).toList:=by rw[YL];exact qn d T
   simp only[execOp,c];split at a
   ·rename_i b O;have:(do let g<-resolve lq U o.type;invoke g.target g.args:Sem Next).run C.P w=(builtin b U.argTypes o.type (U.args.map fun|.const _=>true|_=>false) (U.args.map lq)).run C.P w:=by
     unfold resolve;rw[O];rfl
    rw[this];exact FG y f S a
   ·rename_i r O;split at a
    ·rename_i h e;have:(do let g<-resolve lq U o.type;invoke g.target g.args:Sem Next)=(do let g<-Deferred.ofValue (lq r) (U.args.map lq);invoke g.target g.args:Sem Next):=by
      unfold resolve;rw[O]
     rw[this];exact BG H I f (d _ _ e) S a
    ·cases a
   ·cases a
 case h_29 U c=>
  split at a
  ·rename_i V r T O;split at a
   ·rename_i h e;have S:cU ρ V (U.args.map lq).toList:=by rw[YL];exact qn d T
    simp only[execOp,c];have:(do pure (.defer (<-resolve lq U o.type)):Sem Next)=(do pure (.defer (<-Deferred.ofValue (lq r) (U.args.map lq))):Sem Next):=by
     unfold resolve;rw[O]
    rw[this];exact LV (d _ _ e) S a
   ·cases a
  ·cases a
 case h_30 P c=>
  split at a
  ·rename_i Q h e;cases a;have N:=d _ _ e;simp only[execOp,c];cases L:lq P<;>rw[L]at N<;>cases N;rename_i N;exact⟨Z,_,Z,.iface _ N⟩
  ·cases a
 case h_31=>cases a
end
structure FB where
 fn:FuncId
 kind:CallKind
 round:Option Nat
def ek(b:FB)(tm:Array Value)(df:List Deferred)(todo:List Item):Frame:=
 {fn:=b.fn,tmps:=tm,todo,defers:=df,mode:=.run,kind:=b.kind,roundOf:=b.round}
def BB(tm:Array Value):Operand->Value
 |.tmp c=>tm.getD c undef
 |.const v=>v
 |.global a=>.pointer (some ⟨a,0,none⟩)
 |.func b=>.func (.func b) #[] #[]
theorem zR(b:FB)(tm:Array Value)(df:List Deferred)(a:List Item):(ek b tm df a).eval=BB tm:=by
 funext c;cases c<;>rfl
variable{I K:Code} {B:List Item} {g:Array Oper} {m:Nat} {j:List Nat} {u:List Frame}
section
variable{P:Program} {b:FB} {tm:Array Value} {df:List Deferred} {k:List Item} {cs:List Frame} {w:World}
theorem Ry:step P (lone (ek b tm df (.code .skip::k)) cs w)=.next (lone (ek b tm df k) cs w):=
 step_lone_go (by simp[stepG,stepG.exec,ek])
theorem It{id:Nat}:step P (lone (ek b tm df (.inBlock id::k)) cs w)=.next (lone (ek b tm df k) cs w):=
 step_lone_go (by simp[stepG,stepG.exec,ek])
theorem T1{x y:Code}:step P (lone (ek b tm df (.code (.seq x y)::k)) cs w)=.next (lone (ek b tm df (.code x:: .code y::k)) cs w):=
 step_lone_go (by simp[stepG,stepG.exec,ek])
theorem KA{c:Operand}{t:Bool}(a:BB tm c=.bool t):
  step P (lone (ek b tm df (.code (.cond c I K)::k)) cs w)=.next (lone (ek b tm df (.code (if t then I else K)::k)) cs w):=
 step_lone_go (by
  have:=congrFun (zR b tm df (.code (.cond c I K)::k)) c;simp only[ek]at this;simp[stepG,stepG.exec,ek,this,a])
theorem Oy{id:Nat}{c:Code}:step P (lone (ek b tm df (.code (.block id c)::k)) cs w)=.next (lone (ek b tm df (.code c:: .inBlock id::k)) cs w):=
 step_lone_go (by simp[stepG,stepG.exec,ek])
theorem KB{c:Code}:step P (lone (ek b tm df (.code (.loop c)::k)) cs w)=.next (lone (ek b tm df (.code c:: .inLoop c::k)) cs w):=
 step_lone_go (by simp[stepG,stepG.exec,ek])
theorem LW{c:Code}:step P (lone (ek b tm df (.inLoop c::k)) cs w)=.next (lone (ek b tm df (.code c:: .inLoop c::k)) cs w):=
 step_lone_go (by simp[stepG,stepG.exec,ek])
theorem Rz{id:Nat}(a:exitTo id k=some B):step P (lone (ek b tm df (.code (.exit id)::k)) cs w)=.next (lone (ek b tm df B) cs w):=
 step_lone_go (by simp[stepG,stepG.exec,ek,a])
theorem T2(a:b.round=none):step P (lone (ek b tm df (.code .ret::k)) cs w)=.next (lone {ek b tm df (.code .ret::k)with mode:=.returning} cs w):=
 step_lone_go (by simp[stepG,stepG.exec,ek,a])
theorem T3(a:b.round=none):step P (lone (ek b tm df []) cs w)=.next (lone {ek b tm df []with mode:=.returning} cs w):=
 step_lone_go (by simp[stepG,stepG.exec,ek,a])
theorem LX{id:Nat}:step P (lone (ek b tm df (.code (.region id g false)::k)) cs w)=.next (lone (ek b tm df (.inRegion g (YM g.size)::k)) cs w):=
 step_lone_go (by simp[stepG,stepG.exec,ek])
theorem zS{id:Nat}{ops:Array Oper}:step P (lone (ek b tm df (.code (.region id ops true)::k)) cs w)=
   .next (lone (ek b tm df (.inRegion ops (Region.schedule (P.follows .mixedOrders) ops (w.tape w.drawn (.order b.fn id)))::k)) cs {w with drawn:=w.drawn+1}):=
 step_lone_go (by simp[stepG,stepG.exec,ek,choose,Sem.run,Question.forced,Question.cut])
theorem l7:step P (lone (ek b tm df (.inRegion g []::k)) cs w)=.next (lone (ek b tm df k) cs w):=
 step_lone_go (by simp[stepG,stepG.exec,ek])
def lG(tm:Array Value)(a:Option Tmp)(v:Value):Array Value:=
 match a with
 |some b=>tm.setIfInBounds b v
 |none=>tm
theorem kq{o:Oper}(c:g[m]?=some o)(v:Value):
  (ek b tm df (.inRegion g (m::j)::k)).finish v=ek b (lG tm o.dst v) df (.inRegion g j::k):=by
 cases a:o.dst<;>simp[Frame.finish,ek,lG,c,a]
theorem yh{o:Oper}(a:g[m]?=some o)(c:Region.wanted o (yielded g tm)=false):
  step P (lone (ek b tm df (.inRegion g (m::j)::k)) cs w)=.next (lone (ek b (lG tm o.dst undef) df (.inRegion g j::k)) cs w):=by
 rw[<-kq a];exact step_lone_go (by
  simp only[ek];simp[stepG,stepG.exec,a,c])
theorem kr{o:Oper}(l:g[m]?=some o)(i:Region.wanted o (yielded g tm)=true)(f:b.round=none∨∀d,o.op≠.defer d):
  stepG P true {frame:=ek b tm df (.inRegion g (m::j)::k),callers:=cs,status:=.running,dying:=none} w=
   stepG.apply P true (ek b tm df (.inRegion g (m::j)::k)) cs none (execOp (BB tm) o) w:=by
 have c:=zR b tm df (.inRegion g (m::j)::k);simp only[ek]at c;have e:(match b.round,o.op with
   |some s,.defer d=>stepG.apply P true (ek b tm df (.inRegion g (m::j)::k)) cs none (do Instr.deferInRound s (<-resolve (BB tm) d o.type);pure .skip) w
   |_,_=>stepG.apply P true (ek b tm df (.inRegion g (m::j)::k)) cs none (execOp (BB tm) o) w)=stepG.apply P true (ek b tm df (.inRegion g (m::j)::k)) cs none (execOp (BB tm) o) w:=by
  split
  ·rename_i s d a q;rcases f with h|h
   ·rw[h]at a;cases a
   ·exact absurd q (h d)
  ·rfl
 rw[<-e];simp[stepG,stepG.exec,stepG.oper,Frame.oper?,ek,l,i,c];rfl
theorem vH{o:Oper}(a:g[m]?=some o)(e:Region.wanted o (yielded g tm)=true)(d:b.round=none∨∀f,o.op≠.defer f){v:Value} 
  (c:(execOp (BB tm) o).run P w=.ok (.value v) p∨((execOp (BB tm) o).run P w=.ok .skip p/\v=undef)):
  step P (lone (ek b tm df (.inRegion g (m::j)::k)) cs w)=.next (lone (ek b (lG tm o.dst v) df (.inRegion g j::k)) cs p):=by
 rw[<-kq a];refine step_lone_go ?_;rw[kr a e d];rcases c with c|⟨c,rfl⟩
 ·simp[stepG.apply,c]
 ·simp[stepG.apply,c]
theorem Oz{rest:List Nat}{o:Oper}(d:g[m]?=some o)(c:Region.wanted o (yielded g tm)=true)(a:b.round=none∨∀h,o.op≠.defer h){f:FuncId} 
  (e:(execOp (BB tm) o).run P w=.ok (.enter f n) p):
  step P (lone (ek b tm df (.inRegion g (m::rest)::k)) cs w)=.next (lone (Frame.enter P f n .normal) (ek b tm df (.inRegion g (m::rest)::k)::cs) p):=by
 refine step_lone_go ?_;rw[kr d c a];simp[stepG.apply,e,ek]
theorem FH{o:Oper}(d:g[m]?=some o)(c:Region.wanted o (yielded g tm)=true)(a:b.round=none∨∀h,o.op≠.defer h){l:Nat}{f:FuncId} 
  (e:(execOp (BB tm) o).run P w=.ok (.round l f n I K) p):
  step P (lone (ek b tm df (.inRegion g (m::j)::k)) cs w)=.next (lone (Frame.round l f n I K .normal) (ek b tm df (.inRegion g (m::j)::k)::cs) p):=by
 refine step_lone_go ?_;rw[kr d c a];simp[stepG.apply,e]
theorem OA{o:Oper}(a:g[m]?=some o)(d:Region.wanted o (yielded g tm)=true)(c:b.round=none){e:Deferred} 
  (f:(execOp (BB tm) o).run P w=.ok (.defer e) p):
  step P (lone (ek b tm df (.inRegion g (m::j)::k)) cs w)=.next (lone (ek b (lG tm o.dst undef) (e::df) (.inRegion g j::k)) cs p):=by
 rw[<-kq (df:=e::df) a];refine step_lone_go ?_;rw[kr a d (.inl c)];simp[stepG.apply,f,ek]
theorem OB{o:Oper}(d:g[m]?=some o)(c:Region.wanted o (yielded g tm)=true)(a:b.round=none∨∀f,o.op≠.defer f){v:Value} 
  (e:(execOp (BB tm) o).run P w=.halt (.panic v) p):
  step P (lone (ek b tm df (.inRegion g (m::j)::k)) cs w)=.next (lone {ek b tm df (.inRegion g (m::j)::k)with mode:=.panicking [{v,recovered:=false}]} cs p):=by
 refine step_lone_go ?_;rw[kr d c a];simp[stepG.apply,e,ek,Frame.raise]
def vI:List Frame->List Frame
 |[]=>[]
 |c::b=>(match c.mode with
  |.panicking ({v,recovered:=false,goexit:=false}::a)=>{c with mode:=.panicking ({v,recovered:=true}::a)}
  |_=>c)::b
theorem yP{o:Oper}(c:g[m]?=some o)(d:Region.wanted o (yielded g tm)=true)(a:b.round=none) 
  (h:(execOp (BB tm) o).run P w=.ok .recover p) (f:tryRecover (ek b tm df (.inRegion g (m::j)::k)) cs=none):
  step P (lone (ek b tm df (.inRegion g (m::j)::k)) cs w)=.next (lone (ek b (lG tm o.dst .nilIface) df (.inRegion g j::k)) cs p):=by
 rw[<-kq c];refine step_lone_go ?_;rw[kr c d (.inl a)];have e:(ek b tm df (.inRegion g (m::j)::k)).roundOf=none:=a;simp[stepG.apply,h,e,f]
theorem yQ{o:Oper}(c:g[m]?=some o)(d:Region.wanted o (yielded g tm)=true)(a:b.round=none){v:Value} 
  (h:(execOp (BB tm) o).run P w=.ok .recover p) (f:tryRecover (ek b tm df (.inRegion g (m::j)::k)) cs=some (v,u)):
  step P (lone (ek b tm df (.inRegion g (m::j)::k)) cs w)=.next (lone (ek b (lG tm o.dst v) df (.inRegion g j::k)) u p):=by
 rw[<-kq c];refine step_lone_go ?_;rw[kr c d (.inl a)];have e:(ek b tm df (.inRegion g (m::j)::k)).roundOf=none:=a;simp[stepG.apply,h,e,f]
end
def zT(ρ:Ren):List Deferred->List Deferred->Prop
 |[],[]=>True
 |d::c,b::a=>Vw ρ d b/\zT ρ c a
 |_,_=>False
def DB(ρ:Ren)(d:Option Nat)(b:FB):Prop:=
 match d with
 |none=>b.round=none
 |some c=>∃a,ρ c=some a/\b.round=some a.b
def kindOf(a:Bool):CallKind:=if a then .deferred else .normal
structure ks (ρ:Ren) (fc:FC) (fr:Fr) (b:FB) (tm:Array Value) (df:List Deferred):Prop where
 fn:b.fn=fc.fn
 round:DB ρ fc.round b
 kind:b.kind=kindOf fc.BA
 tm:fU ρ fc.nt fr.tm tm
 df:zT ρ fr.df df
def sa(ρ:Ren)(c:Bool)(ps:ec)(cs:List Frame):Prop:=
 match c,ps with
 |false,_=>True
 |true,.none=>∃b d,cs=b::d/\b.mode=.returning
 |true,.fu v=>∃b d a,cs=b::d/\b.mode=.panicking [{v:=a,recovered:=false}]/\cY ρ v a
 |true,.pG=>∃b d a,cs=b::d/\b.mode=.panicking [{v:=a,recovered:=true}]
def nK(ps b:ec)(cs a:List Frame):Prop:=
 (b=ps/\a=cs)∨(∃v,ps=.fu v/\b=.pG/\a=vI cs)
theorem nK.refl(ps:ec)(cs:List Frame):nK ps ps cs cs:=.inl ⟨rfl,rfl⟩
theorem nK.trans{e b c:ec}{a d:List Frame}(f:nK e b u a)(k:nK b c a d):nK e c u d:=by
 rcases f with⟨rfl,rfl⟩|⟨v,rfl,rfl,rfl⟩
 ·exact k
 ·rcases k with⟨rfl,rfl⟩|⟨h,i,_,_⟩
  ·exact .inr ⟨v,Z,Z,Z⟩
  ·cases i
variable{J:Bool}
theorem sa.step{ρ:Ren}{ps b:ec}{cs a:List Frame}(e:sa ρ J ps cs)(k:nK ps b cs a):sa ρ J b a:=by
 rcases k with⟨rfl,rfl⟩|⟨v,rfl,rfl,rfl⟩
 ·exact e
 ·cases J with
  |false=>trivial
  |true=>
   obtain⟨h,f,c,rfl,d,_⟩:=e;exact⟨{h with mode:=.panicking [{v:=c,recovered:=true}]},f,c,by simp[vI,d],rfl⟩
theorem sa.mono{ρ b:Ren}(c:ρ.le b){a:Bool}{ps:ec}{cs:List Frame}(f:sa ρ a ps cs):sa b a ps cs:=by
 cases a with
 |false=>trivial
 |true=>
  cases ps with
  |none=>exact f
  |fu v=>obtain⟨l,k,h,e,d,i⟩:=f;exact⟨l,k,h,e,d,i.mono c⟩
  |pG=>exact f
theorem FA.mono{ρ a:Ren}(b:ρ.le a){t d:Target}(c:FA ρ t d):FA a t d:=by
 unfold FA at c⊢;split at c
 ·obtain⟨h,f,e⟩:=c;exact⟨h,b _ _ f,e⟩
 ·exact⟨c.1,c.2.mono b⟩
 ·exact c.elim
theorem zT.mono{ρ c:Ren}(a:ρ.le c):∀{e b:List Deferred},zT ρ e b->zT c e b
 |[],[],_=>trivial
 |_::_,_::_,⟨d,f⟩=>⟨⟨d.target.mono a,d.args.mono a⟩,zT.mono a f⟩
 |[],_::_,k=>k.elim
 |_::_,[],k=>k.elim
theorem DB.mono{ρ a:Ren}(c:ρ.le a){d:Option Nat}{b:FB}(e:DB ρ d b):DB a d b:=by
 cases d with
 |none=>exact e
 |some i=>obtain⟨f,h,k⟩:=e;exact⟨f,c _ _ h,k⟩
theorem ks.mono{ρ c:Ren}(a:ρ.le c){fc:FC}{fr:Fr}{b:FB}{tm:Array Value}{df:List Deferred}(d:ks ρ fc fr b tm df):ks c fc fr b tm df:=
 ⟨d.fn,d.round.mono a,d.kind,d.tm.mono a,d.df.mono a⟩
def N9(P:Program)(d:Machine)(ρ:Ren)(b:FB)(k:List Item)(tm:Array Value)(df:List Deferred)(cs:List Frame)(w:World):Ex->Prop
 |.norm=>Steps P d (lone (ek b tm df k) cs w)
 |.exit id=>∃a,Steps P d (lone (ek b tm df (.code (.exit id)::a)) cs w)/\exitTo id a=exitTo id k
 |.ret=>∃a,Steps P d (lone (ek b tm df (.code .ret::a)) cs w)
 |.panic v=>∃a c,cY ρ v c/\Steps P d (lone {ek b tm df a with mode:=.panicking [{v:=c,recovered:=false}]} cs w)
theorem N9.of_steps{P:Program}{l d:Machine}{ρ:Ren}{b:FB}{k:List Item}{tm:Array Value}{df:List Deferred}{cs:List Frame}{w:World}{h:Ex}(f:Steps P l d)(a:N9 P d ρ b k tm df cs w h):N9 P l ρ b k tm df cs w h:=by
 cases h with
 |norm=>exact f.trans a
 |exit id=>obtain⟨c,s,e⟩:=a;exact⟨c,f.trans s,e⟩
 |ret=>obtain⟨c,s⟩:=a;exact⟨c,f.trans s⟩
 |panic v=>obtain⟨c,i,o,s⟩:=a;exact⟨c,i,o,f.trans s⟩
section
variable(C:dU) (w0:World) (N0:Nat) (G:Nat->Prop)
def hh(ρ:Ren)(fc:FC)(o:Machine)(b:FB)(k:List Item)(ps:ec)(cs:List Frame)(l:Ex)(i:Fr)(h:ec)(dI:St):Prop:=
 ∃a f e c d,ρ.le a/\dj w0 N0 G a dI f/\ks a fc i b e c/\nK ps h cs d/\N9 C.P o a b k e c d f l
def zi(ρ:Ren)(f:FuncId)(d:Array Value)(h:Bool)(ps:ec)(k:CR)(i:ec)(dI:St)(cs:List Frame)(w:World):Prop:=
 ∃a c F e,ρ.le a/\dj w0 N0 G a dI c/\nK ps i cs e/\Steps C.P (lone (Frame.enter C.P f d (kindOf h)) cs w) (lone F e c)/\F.fn=f/\F.defers=[]/\F.kind=kindOf h/\(∃fn,C.P.funcs[f]?=some fn/\
  match k with
  |.ret v=>F.mode=.returning/\∃b,(results fn F.tmps).run C.P c=.ok b c/\cY a v b
  |.eE v=>∃b,F.mode=.panicking [{v:=b,recovered:=false}]/\cY a v b)
def FJ(ρ:Ren)(i:Loc)(f:Array Value)(l:CR)(dI:St)(w:World):Prop:=
 ∃fn c a b,(Instr.yield i.b f).run C.P w=.ok (.round i.b fn c a b) w/\∀(k:Frame) (cs:List Frame),∃d h,ρ.le d/\dj w0 N0 G d dI h/\
  match l with
  |.ret v=>∃e,cY d v e/\Steps C.P (lone (Frame.round i.b fn c a b .normal) (k::cs) w) (lone (k.finish e) cs h)
  |.eE v=>∃e,cY d v e/\Steps C.P (lone (Frame.round i.b fn c a b .normal) (k::cs) w) (lone (k.raise [{v:=e,recovered:=false}]) cs h)
structure uf (rc:Rec):Prop where
 code:∀fc c fr ps st x fr' ps' dI,rc.code fc c fr ps st=some (x,fr',ps',dI)->codeOk c=true->∀ρ w b tm df cs k,dj w0 N0 G ρ st w->ks ρ fc fr b tm df->sa ρ fc.BA ps cs->
  hh C w0 N0 G ρ fc (lone (ek b tm df (.code c::k)) cs w) b k ps cs x fr' ps' dI
 call:∀f args BA ps st cr ps' dI,rc.call f args BA ps st=some (cr,ps',dI)->∀ρ w FK cs,dj w0 N0 G ρ st w->cU ρ args FK.toList->sa ρ BA ps cs->
  zi C w0 N0 G ρ f FK BA ps cr ps' dI cs w
 round:∀l args st cr dI,rc.round l args st=some (cr,dI)->∀ρ w L FK,dj w0 N0 G ρ st w->ρ l=some L->cU ρ args FK.toList->FJ C w0 N0 G ρ L FK cr dI w
end
variable{H:yb} {E:ec} {z:Rec} {L:Fr}
section
variable{C:dU} {w0:World} {N0:Nat} {G:Nat->Prop} {ρ:Ren} {fc:FC} {fr:Fr} {ps:ec} {st:St} {b:FB} {tm:Array Value} {df:List Deferred} {cs:List Frame} {w:World}
theorem fU.get{t:Tr Value}(d:fU ρ m t tm){i:Nat}{v:Value}(a:t.get i=some v):cY ρ v (tm.getD i undef):=by
 obtain⟨b,e,c⟩:=d.2 _ _ a;have:tm.getD i undef=b:=by simp[Array.getD_eq_getD_getElem?,e]
 rw[this];exact c
theorem BH{v:Value}(a:pJ v=true)(ρ:Ren):cY ρ v v:=by
 unfold pJ at a;split at a
 ·exact .agg (iO a ρ)
 ·exact r5 a ρ
theorem nL(e:fU ρ m fr.tm tm):mJ ρ (iF fr) (BB tm):=by
 intro c v a;cases c with
 |tmp i=>exact e.get a
 |const f=>
  simp only[iF]at a;split at a
  ·rename_i b;cases a;exact BH b ρ
  ·cases a
 |global h=>cases a
 |func d=>cases a;exact .func d .nil .nil
theorem dz{nt:Nat}{dst:Option Tmp}{v v':Value}{fr':Fr}(e:fU ρ nt fr.tm tm)(f:cY ρ v v')(a:gI nt fr dst v=some fr'):fU ρ nt fr'.tm (lG tm dst v')/\fr'.df=fr.df:=by
 unfold gI at a;split at a
 ·cases a;exact⟨e,rfl⟩
 ·rename_i k;split at a
  ·rename_i b;cases a;have b:=Nat.blt_eq.mp b;refine⟨⟨by simp[lG,e.1],fun o q c=>?_⟩,rfl⟩;rw[cw]at c;by_cases d:o=k
   ·subst d;rw[if_pos rfl]at c;cases c;exact⟨v',by simp only[lG];rw[Array.getElem?_setIfInBounds_self_of_lt (by rw[e.1];exact b)],f⟩
   ·rw[if_neg d]at c;obtain⟨i,h,l⟩:=e.2 _ _ c;exact⟨i,by simp only[lG];rw[Array.getElem?_setIfInBounds_ne (fun h=>d h.symm)];exact h,l⟩
  ·cases a
theorem nM{o:Oper}(t:fU ρ m fr.tm tm)(a:gw g.toList fr o=some J):Region.wanted o (yielded g tm)=J:=by
 unfold gw at a;unfold Region.wanted;split at a
 ·rename_i e;cases a;rw[e]
 ·rename_i v c e;rw[e];split at a
  ·cases a
  ·rename_i y h;rw[cv,YN]at h;split at a
   ·cases a
   ·rename_i x i;have q:yielded g tm v=(match tm[x]? with|some (.bool b)=>some b|_=>none):=by
     unfold yielded;rw[h];simp only[Option.bind_some,i];rfl
    simp only[q];split at a
    ·rename_i l d;cases a;obtain⟨k,s,f⟩:=t.2 _ _ d;cases f;rw[s];cases l<;>cases c<;>rfl
    ·rename_i w d;cases a;obtain⟨k,s,f⟩:=t.2 _ _ d;cases f;rw[s];rfl
    ·cases a
def Tt(C:dU)(w0:World)(N0:Nat)(G:Nat->Prop)(ρ:Ren)(fc:FC)(s:Machine)(b:FB)(tm:Array Value)(df:List Deferred)(f:Array Oper)(w:Nat)(e:List Nat)(k:List Item)(ps:ec)(cs:List Frame)(t:yb):Prop:=
 match t with
 |.next q d dI=>∃a c l h i,ρ.le a/\dj w0 N0 G a dI c/\ks a fc q b l h/\nK ps d cs i/\Steps C.P s (lone (ek b l h (.inRegion f e::k)) i c)
 |.eE v _ d dI=>d=ps/\∃a c o,ρ.le a/\dj w0 N0 G a dI c/\cY a v o/\Steps C.P s (lone {ek b tm df (.inRegion f (w::e)::k)with mode:=.panicking [{v:=o,recovered:=false}]} cs c)
theorem vJ{b:Option Tmp}{v:Value}(c:yb.go m fr b v ps st=some H):∃a,gI m fr b v=some a/\H=.next a ps st:=by
 unfold yb.go at c;split at c
 ·rename_i a d;cases c;exact⟨a,d,rfl⟩
 ·cases c
theorem lH(a:nK .none E cs u):E=.none/\u=cs:=by
 rcases a with a|⟨v,e,_⟩
 ·exact a
 ·cases e
theorem hq{C:dU}{ev:Operand->Option Value}{o:Oper}(a:h0 C ev o st=some D)(b:∀d,D≠.defer d):∀c,o.op≠.defer c:=by
 intro c e;unfold h0 at a;rw[e]at a;simp only at a;split at a
 ·split at a
  ·unfold zH at a;split at a
   ·cases a;exact b _ rfl
   ·cases a
  ·cases a
 ·cases a
theorem FL(h:ks ρ fc fr b tm df)(d:sa ρ fc.BA ps cs)(f:∀v,fc.BA=true->ps=.fu v->False):tryRecover (ek b tm df B) cs=none:=by
 cases c:fc.BA with
 |false=>
  have a:b.kind=.normal:=by rw[h.kind,c];rfl
  simp[tryRecover,ek,a]
 |true=>
  have a:b.kind=.deferred:=by rw[h.kind,c];rfl
  rw[c]at d;cases ps with
  |none=>
   obtain⟨l,i,rfl,e⟩:=d;simp[tryRecover,ek,a,e]
  |fu v=>exact(f v c rfl).elim
  |pG=>
   obtain⟨l,i,k,rfl,e⟩:=d;simp[tryRecover,ek,a,e]
theorem FM(A:l6 C)(B:Cy C)(D:mb C)(ac:uf C w0 N0 G z){o:Oper}(W:kS C z fc o fr ps st=some H)(x:dj w0 N0 G ρ st w)(a:ks ρ fc fr b tm df)(ag:sa ρ fc.BA ps cs)(i:List Nat)(k:List Item)(V:g[m]?=some o)(d:Region.wanted o (yielded g tm)=true):
  Tt C w0 N0 G ρ fc (lone (ek b tm df (.inRegion g (m::i)::k)) cs w) b tm df g m i k ps cs H:=by
 unfold kS at W;have X:=nL a.tm;split at W
 ·cases W
 ·rename_i v dI l;obtain⟨j,R,rfl⟩:=vJ W;obtain⟨t,s,U,q,N⟩:=oH A B D x X l;obtain⟨Q,Y⟩:=dz (a.tm.mono N.le) N.value R;refine⟨t,U,lG tm o.dst s,df,cs,N.le,N.world,⟨a.fn,a.round.mono N.le,a.kind,Q,by rw[Y];exact a.df.mono N.le⟩,.refl _ _,.one ?_⟩;exact vH V d (.inr (hq l (by intro aj e;cases e))) q
 ·rename_i v dI l;cases W;obtain⟨rfl,s,q,S⟩:=oH A B D x X l;exact⟨Z,ρ,w,s,Ren.le_refl _,x,S,.one (OB V d (.inr (hq l (by intro aj e;cases e))) q)⟩
 ·rename_i aw ad l;obtain⟨M,q,y⟩:=oH A B D x X l;have E:=Oz (P:=C.P) (b:=b) (df:=df) (k:=k) (cs:=cs) (rest:=i) V d (.inr (hq l (by intro aj e;cases e))) q;split at W
  ·rename_i v ap dI p;obtain⟨j,R,rfl⟩:=vJ W;obtain⟨t,U,F,an,f,O,K,c,aa,Y,al,fn,n,L,s,ah,S⟩:=ac.call _ _ _ _ _ _ _ _ p ρ w M (ek b tm df (.inRegion g (m::i)::k)::cs) x y trivial;obtain⟨_,rfl⟩:=lH K;obtain⟨Q,h⟩:=dz (a.tm.mono f) S R;refine⟨t,U,lG tm o.dst s,df,cs,f,O,⟨a.fn,a.round.mono f,a.kind,Q,by rw[h];exact a.df.mono f⟩,.refl _ _,?_⟩;refine .head E (c.trans (.one ?_));rw[<-kq V];exact step_leave_returned ⟨L,Y,al,fn,by rw[aa];exact n,ah⟩
  ·rename_i v ap dI p;cases W;obtain⟨t,U,F,an,f,O,K,c,aa,Y,al,fn,n,s,L,S⟩:=ac.call _ _ _ _ _ _ _ _ p ρ w M (ek b tm df (.inRegion g (m::i)::k)::cs) x y trivial;obtain⟨_,rfl⟩:=lH K;refine⟨Z,t,U,s,f,O,S,.head E (c.trans (.one ?_))⟩;have:=step_leave_panicked (P:=C.P) (c:=ek b tm df (.inRegion g (m::i)::k)) (cs:=cs) (w:=U) (fr:=F) ⟨L,Y,fn,by rw[aa];exact n⟩;rw[this];rfl
  ·cases W
 ·rename_i ax ad l;obtain⟨au,M,am,y,q⟩:=oH A B D x X l;split at W
  ·rename_i v dI p;obtain⟨j,R,rfl⟩:=vJ W;obtain⟨fn,af,I,ae,ai,c⟩:=ac.round _ _ _ _ _ p ρ w au M x am y;rw[ai]at q;obtain⟨t,U,f,O,s,S,u⟩:=c (ek b tm df (.inRegion g (m::i)::k)) cs;obtain⟨Q,h⟩:=dz (a.tm.mono f) S R;refine⟨t,U,lG tm o.dst s,df,cs,f,O,⟨a.fn,a.round.mono f,a.kind,Q,by rw[h];exact a.df.mono f⟩,.refl _ _,?_⟩;refine .head (FH V d (.inr (hq l (by intro aj e;cases e))) q) ?_;rw[kq V]at u;exact u
  ·rename_i v dI p;cases W;obtain⟨fn,af,I,ae,ai,c⟩:=ac.round _ _ _ _ _ p ρ w au M x am y;rw[ai]at q;obtain⟨t,U,f,O,s,S,u⟩:=c (ek b tm df (.inRegion g (m::i)::k)) cs;exact⟨Z,t,U,s,f,O,S,.head (FH V d (.inr (hq l (by intro aj e;cases e))) q) u⟩
  ·cases W
 ·rename_i l;have q:(execOp (BB tm) o).run C.P w=.ok .recover w:=oH A B D x X l;split at W
  ·cases W
  ·rename_i T;have r:b.round=none:=by have:=a.round;rw[T]at this;exact this
   split at W
   ·rename_i v J;obtain⟨j,R,rfl⟩:=vJ W;rw[J]at ag;obtain⟨av,ao,s,rfl,L,S⟩:=ag;obtain⟨Q,h⟩:=dz a.tm S R;have ab:b.kind=.deferred:=by rw[a.kind,J];rfl
    refine⟨ρ,w,lG tm o.dst s,df,vI (av::ao),Ren.le_refl _,x,⟨a.fn,a.round,a.kind,Q,by rw[h];exact a.df⟩,.inr ⟨v,rfl,rfl,rfl⟩,.one ?_⟩;refine yQ V d r q ?_;simp[tryRecover,ek,ab,L,vI]
   ·rename_i ak;obtain⟨j,R,rfl⟩:=vJ W;obtain⟨Q,h⟩:=dz a.tm .nilIface R;refine⟨ρ,w,lG tm o.dst .nilIface,df,cs,Ren.le_refl _,x,⟨a.fn,a.round,a.kind,Q,by rw[h];exact a.df⟩,.refl _ _,.one ?_⟩;refine yP V d r q ?_;exact FL a ag ak
 ·rename_i aj l;obtain⟨ar,q,aq⟩:=oH A B D x X l;split at W
  ·cases W
  ·rename_i T;have r:b.round=none:=by have:=a.round;rw[T]at this;exact this
   obtain⟨j,R,rfl⟩:=vJ W;obtain⟨Q,h⟩:=dz (fr:={fr with df:=aj::fr.df}) (v':=undef) a.tm (.tuple .nil) R;refine⟨ρ,w,lG tm o.dst undef,ar::df,cs,Ren.le_refl _,x,⟨a.fn,a.round,a.kind,Q,by rw[h];exact⟨aq,a.df⟩⟩,.refl _ _,.one ?_⟩;exact OA V d r q
theorem mY(s:l6 C)(t:Cy C)(v:mb C)(F:uf C w0 N0 G z){o:Oper}(l:ji C z fc g.toList o fr ps st=some H)(h:dj w0 N0 G ρ st w)(a:ks ρ fc fr b tm df)(x:sa ρ fc.BA ps cs)(c:List Nat)(k:List Item)(i:g[m]?=some o):
  Tt C w0 N0 G ρ fc (lone (ek b tm df (.inRegion g (m::c)::k)) cs w) b tm df g m c k ps cs H:=by
 unfold ji at l;split at l
 ·cases l
 ·rename_i d;obtain⟨M,y,rfl⟩:=vJ l;have e:=nM a.tm d;obtain⟨q,f⟩:=dz (v':=undef) a.tm (.tuple .nil) y;exact⟨ρ,w,lG tm o.dst undef,df,cs,Ren.le_refl _,h,⟨a.fn,a.round,a.kind,q,by rw[f];exact a.df⟩,.refl _ _,.one (yh i e)⟩
 ·rename_i d;exact FM s t v F l h a x c k i (nM a.tm d)
theorem LY{o:Oper}{v:Value}{dI:St}(a:kS C z fc o fr ps st=some (.eE v L E dI)):L=fr:=by
 unfold kS at a;repeat' split at a
 all_goals first
  |cases a;done
  |(obtain⟨_,_,b⟩:=vJ a;cases b;done)
  |(cases a;rfl)
theorem zU{a:List Oper}{o:Oper}{v:Value}{dI:St}(b:ji C z fc a o fr ps st=some (.eE v L E dI)):L=fr:=by
 unfold ji at b;split at b
 ·cases b
 ·obtain⟨_,_,c⟩:=vJ b;cases c
 ·exact LY b
theorem DC(u:l6 C)(A:Cy C)(B:mb C)(K:uf C w0 N0 G z){ops:Array Oper}(k:List Item):∀(W:List Oper) (f:Nat) (fr:Fr) (ps:ec) (st:St) (ρ:Ren) (w:World) (tm:Array Value) (df:List Deferred) (cs:List Frame) (p:Ex) (d:Fr) (a:ec) (dI:St),
  W=ops.toList.drop f->nF C z fc ops.toList W fr ps st=some (p,d,a,dI)->dj w0 N0 G ρ st w->ks ρ fc fr b tm df->sa ρ fc.BA ps cs->
  hh C w0 N0 G ρ fc (lone (ek b tm df (.inRegion ops ((YM ops.size).drop f)::k)) cs w) b k ps cs p d a dI:=by
 intro W;induction W with
 |nil=>
  intro f fr ps st ρ w tm df cs p d a dI s M x l y;simp only[nF,Option.some.injEq,Prod.mk.injEq]at M;obtain⟨rfl,rfl,rfl,rfl⟩:=M;have V:ops.size<=f:=by
   have:=congrArg List.length s;simp at this;omega
  refine⟨ρ,w,tm,df,cs,Ren.le_refl _,x,l,.refl _ _,?_⟩;rw[List.drop_eq_nil_of_le (by simpa using V)];exact .one l7
 |cons o W ab=>
  intro f fr ps st ρ w tm df cs p d a dI s M x l y;have V:f<ops.size:=by
   have:=congrArg List.length s;simp at this;omega
  have D:ops[f]?=some o:=by
   have:=congrArg (fun q=>q[0]?) s;simp only[List.getElem?_cons_zero,List.getElem?_drop,Nat.add_zero,YN]at this;exact this.symm
  have E:W=ops.toList.drop (f+1):=by
   have:=congrArg List.tail s;simpa using this
  have c:(YM ops.size).drop f=f::(YM ops.size).drop (f+1):=by
   rw[List.drop_eq_getElem_cons (by simpa using V)];simp
  simp only[nF]at M;split at M
  ·cases M
  ·rename_i N Q O F;obtain⟨i,R,I,Y,H,e,t,L,P,h⟩:=mY u A B K F x l y ((YM ops.size).drop (f+1)) k D;obtain⟨j,ad,n,r,X,T,m,J,U,S⟩:=ab (f+1) N Q O i R I Y H p d a dI E M t L ((y.mono e).step P);refine⟨j,ad,n,r,X,e.trans T,m,J,P.trans U,?_⟩;rw[c];exact .of_steps h S
  ·rename_i v N Q O F;simp only[Option.some.injEq,Prod.mk.injEq]at M;obtain⟨rfl,rfl,rfl,rfl⟩:=M;have g:=zU F;subst g;obtain⟨rfl,i,R,aa,e,t,ac,h⟩:=mY u A B K F x l y ((YM ops.size).drop (f+1)) k D;refine⟨i,R,tm,df,cs,e,t,l.mono e,.refl _ _,?_⟩;rw[c];exact⟨_,aa,ac,h⟩
end
end Go.AM
