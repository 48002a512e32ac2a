/- Part of the proof. -/
import Derived.Test.YtdocmpeionacbaaGreatDoorKAa
import Derived.RangeFuncNested
import Derived.Lib.Bytealg
import Derived.Lib.IndexMore
set_option linter.all false
set_option maxHeartbeats 16000000
set_option maxRecDepth 100000
open Bool renaming and_eq_true->ais,or_eq_false_iff->aiv,or_eq_true->aiy,not_eq_true'->aiI,eq_iff_iff->aiO,true->A',false->B'
open List renaming mem_cons->ait,mem_append->aiD,range->aiG,all_eq_true->aiH,mem_erase_of_ne->aiP,nodup_append->aiQ,mem_filter->aiT,length_erase_of_mem->aiV,length->j'
open Nat renaming eq_of_beq_eq_true->aiu,lt_succ_of_lt->aiA,ne_of_beq_eq_false->aiC,beq_eq->aiF,blt_eq->aiK,testBit->aiL,le_of_ble_eq_true->aiM,beq->aiN,le_refl->aiS,beq_refl->aiW,mul_add->aiX
open Array renaming getElem?_toList->aiw,getElem?_setIfInBounds_self_of_lt->aix,getElem?_eq_getElem->aiz,toList_map->aiB,getD_eq_getD_getElem?->aiE,toList_append->aiJ,getElem?_setIfInBounds_ne->aiR,replicate->aiU
open Option renaming some->q',none->u'
open Go renaming Value->C',TypeId->F',World->G',Operand->H',Deferred->J',Frame->K',Oper->M',Machine->Q',Code->T'
namespace Go.AM
open Go.RowKit (Below)
variable{R:Result Next} {H:FuncId} {E:n_ C'} {B:Array C'} {W:Sem C'} {J:G'} {z:M'}
section
variable{C:eN} {w0:G'} {N0:Nat} {G:Nat->Prop} {ρ:Ren} {st dy:St} {w:G'} {v:C'} {ev:H'->Option C'} {oA:H'->C'}
def uG(d:qo ρ ev oA):∀{a:n_ H'} {b:n_ C'},oW ev a=q' b->du ρ b (a.map oA):=by
 intro a;induction a with
 |nil=>intro b c;simp[oW]at c;subst c;exact .nil
 |cons i a e=>
  intro b c;simp only[oW]at c;split at c
  ·rename_i j k h f;cases c;exact .cons (d _ _ h) (e f)
  cases c
def wx(e:qo ρ ev oA):∀{a:n_ (Nat×H')} {b:n_ (Nat×C')},nQ ev a=q' b->DA ρ b (a.map fun(j,d)=>(j,oA d)):=by
 intro a;induction a with
 |nil=>intro b c;simp[nQ]at c;subst c;exact .nil
 |cons d a f=>
  obtain⟨j,d⟩:=d;intro b c;simp only[nQ]at c;split at c
  ·rename_i k l i h;cases c;exact .cons (e _ _ i) (f h)
  cases c
def uD.value{e:Result C'}(f:uD w0 N0 G ρ dy v e)(d:R=e.andThen λh w=>.ok (Next.value h) w):DC C w0 N0 G ρ st w (.val v dy) R:=by
 have⟨a,b,c,i,k⟩:=f;subst i;exact⟨a,b,c,.inl (by rw[d];rfl),k⟩
def s0(c:L3 C){b:FI}(d:C.ff.get H=q' b)(a:Array C'):(callFunc H a).run C.P w=.ok (.enter H a) w:=by
 have⟨fn,f,e,_,_,h⟩:=c.fn _ _ d;unfold callFunc
 simp_all
def HI(u:L3 C)(v:qp C){P q:C'}{l:AR}(x:dQ w0 N0 G ρ st w)(p:dA ρ P q)(d:du ρ E B.toList)(e:mO C P E st=q' l):
  DC C w0 N0 G ρ st w l ((do let j<-Deferred.ofValue q B;invoke j.target j.args:Sem Next).run C.P w):=by
 unfold mO at e;split at e
 ·rename_i X first c
  cases p with
  |@func _ _ b _ a f m=>
  have i:du ρ (first.toList++E++c.toList) (b++B++a).toList:=by
   simp only[aiJ];exact(f.append d).append m
  have k:(do let j<-Deferred.ofValue (.func (.func X) b a) B;invoke j.target j.args:Sem Next).run C.P w=(callFunc X (b++B++a)).run C.P w:=rfl;rw[k];simp only at e;split at e
  ·rename_i z r;cases e;exact⟨_,s0 u r _,i⟩
  split at e
  ·rename_i g D;cases e;have⟨F,t⟩:=v _ _ _ D ρ _ w i;exact⟨ρ,g,w,.inl F,Ren.le_refl _,x,t⟩
  cases e
 ·rename_i A first c
  cases p with
  |@yield _ s _ b _ a y f m=>
  split at e
  ·rename_i h;cases e;rw[h]at f;have o:b= #[]:=by
    cases n:b.toList with
    |nil=>exact Array.toList_eq_nil_iff.1 n
    |cons _ _=>rw[n]at f;cases f
   subst o;refine⟨s,B,y,d,?_⟩;have:(do let j<-Deferred.ofValue (.func (.yield s.b) #[] a) B;invoke j.target j.args:Sem Next).run C.P w=(Instr.yield s.b (#[]++B)).run C.P w:=rfl;rw[this,Array.empty_append]
  cases e
 cases e
def VC{l f:C'}{e:AR}(i:dA ρ l f)(a:du ρ E B.toList)(h:Fu l E=q' e):
  DC C w0 N0 G ρ st w e ((do pure (.defer (<-Deferred.ofValue f B)):Sem Next).run C.P w):=by
 unfold Fu at h;split at h
 ·rename_i m first c
  cases h;cases i with
  |@func _ _ d _ b k j=>
  refine⟨_,Z,⟨Z,j⟩,?_⟩;simp only[aiJ];exact k.append a
 cases h
def CE(f:qo ρ ev oA){a:Option H'}{e:Option C'}(c:(match a with|none=>q' u'|some e=>(ev e).map q')=q' e):
  (e=u'/\a.map oA=u')∨∃h d,e=q' h/\a.map oA=q' d/\dA ρ h d:=by
 cases a with
 |none=>cases c;exact .inl ⟨rfl,rfl⟩
 |some a=>
  simp only at c;cases b:ev a with
  |none=>rw[b]at c;cases c
  |some i=>rw[b]at c;cases c;exact .inr ⟨i,oA a,rfl,rfl,f _ _ b⟩
def adO(C:eN)(b:Builtin)(a:n_ F')(d:n_ C')(c:AR)(h:ll C b a d st=q' c):(∃e dy,c=.val e dy)∨c=.recover:=by
 unfold ll at h;split at h
 ·unfold qF at h;repeat' split at h
  all_goals first|cases h;done|skip
  unfold gQ at h;exact xN
 ·unfold CC at h;exact xN
 ·exact xN
 ·exact xN
 ·cases h;exact .inr rfl
 cases h
theorem Ot(n:qb C)(i:dQ w0 N0 G ρ st w){b:Builtin}{c:Array F'}{f:F'}{cs:Array Bool}{m:AR}(d:du ρ E B.toList)(a:ll C b c.toList E st=q' m):
  DC C w0 N0 G ρ st w m ((builtin b c f cs B).run C.P w):=by
 rcases adO C b _ _ _ a with⟨t,o,rfl⟩|rfl
 ·unfold ll at a;split at a
  ·exact uD.value (RC n i (ty:=f) d a) (Sem.run_bind ..)
  ·obtain⟨e,h,rfl⟩:=abS (ty:=f) n i d a;exact uD.value (C:=C) (w:=w) (uD.same i h) (by
    show(do pure (.value (<-Builtin.len_ c f B)):Sem Next).run C.P w=_;rw[Sem.run_bind,e];rfl)
  ·split at a
   ·rename_i r q;split at a
    ·rename_i p j;obtain⟨rfl,rfl⟩:=dS a;obtain⟨B⟩:=B;cases d with
     |cons l k=>
      have⟨e,h⟩:=DD (P:=C.P) (w:=w) A' k l j;simp only[cond]at e;exact uD.value (C:=C) (w:=w) (uD.same i h) (by
       show(do pure (.value (<-List.foldlM Builtin.max2 _ _)):Sem Next).run C.P w=_;rw[Sem.run_bind,e];rfl)
    cases a
   cases a
  ·split at a
   ·rename_i r q;split at a
    ·rename_i p j;obtain⟨rfl,rfl⟩:=dS a;obtain⟨B⟩:=B;cases d with
     |cons l k=>
      have⟨e,h⟩:=DD (P:=C.P) (w:=w) B' k l j;simp only[cond]at e;exact uD.value (C:=C) (w:=w) (uD.same i h) (by
       show(do pure (.value (<-List.foldlM Builtin.min2 _ _)):Sem Next).run C.P w=_;rw[Sem.run_bind,e];rfl)
    cases a
   cases a
  ·cases a
  cases a
 unfold ll at a;split at a
 ·exfalso;rcases adO C .append _ _ _ (by unfold ll;exact a)with⟨_,_,s⟩|_<;>first|cases s|skip
  unfold qF at a;repeat' split at a
  all_goals first|cases a;done|skip
  unfold gQ at a;repeat' split at a
  all_goals first|cases a;done|(unfold val at a;cases a)
 ·exfalso;unfold CC at a;repeat' split at a
  all_goals first|cases a;done|(unfold val at a;cases a)
 ·grind [val]
 ·grind [val]
 ·rfl
 cases a
def gX(b:dQ w0 N0 G ρ st w){a:C'}(d:W.run C.P w=.ok a w)(c:dA ρ v a):DC C w0 N0 G ρ st w (.val v st) ((do pure (.value (<-W)):Sem Next).run C.P w):=
 ⟨ρ,a,w,.inl (by rw[ct _ d];rfl),Ren.le_refl _,b,c⟩
def tI(a:uD w0 N0 G ρ dy v (W.run C.P w)):DC C w0 N0 G ρ st w (.val v dy) ((do pure (.value (<-W)):Sem Next).run C.P w):=uD.value a (Sem.run_bind ..)
def Oa{c:Sem Unit}(a:c.run C.P w=.ok () J)(b:dQ w0 N0 G ρ dy J):DC C w0 N0 G ρ st w (.val mM dy) ((do c;pure .skip:Sem Next).run C.P w):=
 ⟨ρ,undef,J,.inr ⟨by rw[ct _ a];rfl,rfl⟩,Ren.le_refl _,b,.tuple .nil⟩
theorem sj(hT:qb C)(B:L3 C)(E:qp C)(hw:dQ w0 N0 G ρ st w)(he:qo ρ ev oA){d:AR}(h:kZ C ev z st=q' d):DC C w0 N0 G ρ st w d ((execOp oA z).run C.P w):=by
 unfold kZ at h;split at h
 case h_1 f kg=>
  exact JS
 case h_2 f kg=>
  exact JS
 case h_3 c x b kg=>
  split at h
  ·rename_i i u v hc ha hb;unfold val at h;cases h;have t:=he _ _ hc;simp only[execOp,kg];cases g:oA c<;>rw[g]at t<;>cases t;cases i
   ·exact⟨ρ,_,w,.inl Z,Ren.le_refl _,hw,he _ _ hb⟩
   exact⟨ρ,_,w,.inl Z,Ren.le_refl _,hw,he _ _ ha⟩
  cases h
 case h_4 i kg=>
  have a:∃u s,d=.val u s:=by unfold zq val at h;split at h<;>cases h;exact⟨_,_,rfl⟩
  obtain⟨u,s,rfl⟩:=a;simp only[execOp,kg];exact tI (Vo hT hw h)
 case h_5 i f kg=>
  split at h
  ·rename_i u hu;have a:∃u s,d=.val u s:=by unfold Rn val at h;split at h<;>cases h;exact⟨_,_,rfl⟩
   obtain⟨u,s,rfl⟩:=a;simp only[execOp,kg];exact tI (abM hw (he _ _ hu) h)
  cases h
 case h_6 i ps kg=>
  split at h
  ·rename_i l q;have a:∃u s,d=.val u s:=by
    unfold zn val at h;exact gp
   obtain⟨u,s,rfl⟩:=a;simp only[execOp,kg];obtain⟨j,e1,e2,rfl⟩:=Vr (w:=w) (ps':=ps.map fun(A,f)=>(A,oA f)) hT hw (by rw[aiB];exact wx he q) h;exact gX hw e1 e2
  cases h
 case h_7 i ac ps kg=>
  split at h
  ·rename_i l q;have a:∃u s,d=.val u s:=by
    unfold lp val at h;exact gp
   obtain⟨u,s,rfl⟩:=a;simp only[execOp,kg];exact tI (Fy hT hw (by rw[aiB];exact wx he q) h)
  cases h
 case h_8 i x kg=>
  split at h
  ·rename_i u hu;have a:∃u s,d=.val u s:=by
    unfold At val at h;exact gp
   obtain⟨u,s,rfl⟩:=a;simp only[execOp,kg];obtain⟨j,e1,e2,rfl⟩:=Of hT hw (he _ _ hu) h;exact gX hw e1 e2
  cases h
 case h_9 i x f kg=>
  split at h
  ·rename_i u S hu y;have a:∃u s,d=.val u s:=by
    unfold mN val at h;exact gp
   obtain⟨u,s,rfl⟩:=a;simp only[execOp,kg];obtain⟨w',e1,e2,rfl,_⟩:=Vp hT hw (he _ _ hu) (he _ _ y) h;exact Oa e1 e2
  cases h
 case h_10 f kg=>
  split at h
  ·rename_i u hu;have a:∃u s,d=.val u s:=by
    unfold oX val at h;exact gp
   obtain⟨u1,s,rfl⟩:=a;have e:=he _ _ hu;obtain⟨rfl,rfl,Y,aa,Q,R⟩:=LZ e h;simp only[execOp,kg];refine⟨ρ,oA f,w,.inl ?_,Ren.le_refl _,hw,e⟩;generalize oA f=H at*;rfl
  cases h
 case h_11 K i f H T kg=>
  split at h
  ·rename_i u v hu a;split at h
   ·rename_i O e;unfold val at h;cases h;have⟨e1,e2⟩:=abQ (w:=w) hT (he _ _ hu) (he _ _ a) e;simp only[execOp,kg];exact gX hw e1 e2
   cases h
  cases h
 case h_12 K i f kg=>
  split at h
  ·rename_i u hu;split at h
   ·rename_i O e;unfold val at h;cases h;have⟨e1,e2⟩:=aex (C:=C) (w:=w) (he _ _ hu) e;simp only[execOp,kg];exact gX hw e1 e2
   cases h
  cases h
 case h_13 s r f kg=>
  split at h
  ·rename_i u hu;have a:∃u s,d=.val u s:=by
    unfold jY val at h;exact gp
   obtain⟨u1,s1,rfl⟩:=a;simp only[execOp,kg];exact tI (Oo hT hw (he _ _ hu) h)
  cases h
 case h_14 i f kg=>
  split at h
  ·rename_i u hu;have a:∃u s,d=.val u s:=by
    grind [iS,val]
   obtain⟨u1,s1,rfl⟩:=a;simp only[execOp,kg];obtain⟨e1,e2,rfl,M⟩:=AC (w:=w) hT (he _ _ hu) h;exact gX hw e1 M
  cases h
 case h_15 fn x b kg=>
  split at h
  ·rename_i u v X hu a;unfold val at h;cases h;simp only[execOp,kg,Instr.makeFunc];refine⟨ρ,.func fn (x.map oA) (b.map oA),w,.inl Z,Ren.le_refl _,hw,?_⟩;cases fn<;>first|(simp[aeu]at X;done)|skip
   exact .func _ (by rw[aiB];exact uG he hu) (by rw[aiB];exact uG he a)
  cases h
 case h_16 i kg=>
  unfold val at h;cases h;simp only[execOp,kg];refine⟨ρ.add st.n ⟨w.heap.size,0,0,0⟩,.map (q' w.heap.size),{w with heap:=w.heap.push (.map #[] 0)},.inl Z,fb hw.jr,hw.new Z trivial ⟨#[],Z,tv⟩,?_⟩;exact .map (l:=⟨w.heap.size,0,0,0⟩) (dG _ _ _)
 case h_17 i l c kg=>
  split at h
  ·rename_i u v hu a;have JL:∃u s,d=.val u s:=by
    unfold kp val at h;exact gp
   obtain⟨u1,s1,rfl⟩:=JL;simp only[execOp,kg];exact tI (HH hT hw (he _ _ hu) (he _ _ a) h)
  cases h
 case h_18 i f ab W U kg=>
  split at h
  ·rename_i u l V m hu q F L;have JL:∃u s,d=.val u s:=by
    unfold qc val at h;exact gp
   obtain⟨u1,s1,rfl⟩:=JL;simp only[execOp,kg];obtain⟨j,e1,e2,rfl⟩:=VB (w:=w) hT hw (he _ _ hu) (CE he q) (CE he F) (CE he L) h;exact gX hw e1 e2
  cases h
 case h_19 i f D kg=>
  split at h
  ·rename_i u hu;have JL:∃u s,d=.val u s:=by
    unfold gW val at h;exact gp
   obtain⟨u1,s1,rfl⟩:=JL;simp only[execOp,kg];obtain⟨j,e1,e2,rfl⟩:=HF (w:=w) hT (he _ _ hu) h;exact gX hw e1 e2
  cases h
 case h_20 i f D kg=>
  split at h
  ·rename_i u hu;have JL:∃u s,d=.val u s:=by
    unfold zs val at h;exact gp
   obtain⟨u1,s1,rfl⟩:=JL;simp only[execOp,kg];obtain⟨j,e1,e2,rfl⟩:=Vx (w:=w) hT (he _ _ hu) h;exact gX hw e1 e2
  cases h
 case h_21 i f A kg=>
  split at h
  ·rename_i u v hu a;have JL:∃u s,d=.val u s:=by
    unfold iT val at h;exact gp
   obtain⟨u1,s1,rfl⟩:=JL;simp only[execOp,kg];obtain⟨j,e1,e2,rfl⟩:=HG (w:=w) hT (he _ _ hu) (he _ _ a) h;exact gX hw e1 e2
  cases h
 case h_22 i f A kg=>
  split at h
  ·rename_i u v hu a;have JL:∃u s,d=.val u s:=by
    unfold we val at h;exact gp
   obtain⟨u1,s1,rfl⟩:=JL;simp only[execOp,kg];obtain⟨j,e1,e2,rfl⟩:=Vy (w:=w) hT (he _ _ hu) (he _ _ a) h;exact gX hw e1 e2
  cases h
 case h_23 i f A I kg=>
  split at h
  ·rename_i u v hu a;have JL:∃u s,d=.val u s:=by
    unfold sc val at h;exact gp
   obtain⟨u1,s1,rfl⟩:=JL;simp only[execOp,kg];obtain⟨j,e1,e2,rfl⟩:=RD (w:=w) hT hw (he _ _ hu) (he _ _ a) h;exact gX hw e1 e2
  cases h
 case h_24 i m k H kg=>
  split at h
  ·rename_i x b c ha hb hc;have JL:∃u s,d=.val u s:=by
    unfold kq val at h;exact gp
   exact JK
  cases h
 case h_25 i m k H kg=>
  split at h
  ·rename_i x b c ha hb hc;have JL:∃u s,d=.val u s:=by
    unfold kq val at h;exact gp
   exact JK
  cases h
 case h_26 f P i I kg=>
  split at h
  ·rename_i u hu;have JL:∃u s,d=.val u s:=by
    unfold ki val at h;exact gp
   obtain⟨u1,s1,rfl⟩:=JL;simp only[execOp,kg];obtain⟨j,e1,e2,rfl⟩:=FF (w:=w) (xt:=P) hT (he _ _ hu) h;exact gX hw e1 e2
  cases h
 case h_27 f A kg=>
  split at h
  ·rename_i u hu;have JL:∃u s,d=.val u s:=by
    unfold rh val at h;exact gp
   obtain⟨u1,s1,rfl⟩:=JL;simp only[execOp,kg];obtain⟨j,e1,e2,rfl⟩:=Ol (C:=C) (w:=w) (he _ _ hu) h;exact gX hw e1 e2
  cases h
 case h_28 c kg=>
  split at h
  ·cases h
  rename_i p o;have n:du ρ p (c.args.map oA).toList:=by rw[aiB];exact uG he o
  simp only[execOp,kg];split at h
  ·rename_i b hc;have:(do let r<-resolve oA c z.type;invoke r.target r.args:Sem Next).run C.P w=(builtin b c.argTypes z.type (c.args.map fun|.const _=>A'|_=>B') (c.args.map oA)).run C.P w:=by
    unfold resolve;rw[hc];rfl
   rw[this];exact Ot hT hw n h
  ·rename_i D hc;split at h
   ·rename_i u hu;have:(do let r<-resolve oA c z.type;invoke r.target r.args:Sem Next)=(do let r<-Deferred.ofValue (oA D) (c.args.map oA);invoke r.target r.args:Sem Next):=by
     unfold resolve;rw[hc]
    rw[this];exact HI B E hw (he _ _ hu) n h
   cases h
  cases h
 case h_29 c kg=>
  split at h
  ·rename_i p D o hc;split at h
   ·rename_i u hu;have n:du ρ p (c.args.map oA).toList:=by rw[aiB];exact uG he o
    simp only[execOp,kg];have:(do pure (.defer (<-resolve oA c z.type)):Sem Next)=(do pure (.defer (<-Deferred.ofValue (oA D) (c.args.map oA))):Sem Next):=by
     unfold resolve;rw[hc]
    rw[this];exact VC (he _ _ hu) n h
   cases h
  cases h
 case h_30 f kg=>
  split at h
  ·rename_i i u hu;cases h;have e:=he _ _ hu;simp only[execOp,kg];cases J:oA f<;>rw[J]at e<;>cases e;rename_i e;exact⟨Z,_,Z,.iface _ e⟩
  cases h
 case h_31=>cases h
end
structure FB where
 fn:FuncId
 kind:CallKind
 round:Option Nat
def eZ(b:FB)(tm:Array C')(df:n_ J')(todo:n_ Item):K':=
 {fn:=b.fn,tmps:=tm,todo,defers:=df,mode:=.run,kind:=b.kind,roundOf:=b.round}
def Hw(tm:Array C'):H'->C'
 |.tmp c=>tm.getD c undef
 |.const v=>v
 |.global a=>.pointer (q' ⟨a,0,u'⟩)
 |.func b=>.func (.func b) #[] #[]
def FJ(b:FB)(tm:Array C')(df:n_ J')(a:n_ Item):(eZ b tm df a).eval=Hw tm:=by
 funext c;cases c<;>rfl
variable{L:Bool} {Y:n_ Item} {Q g:Nat} {A:n_ Nat} {M:n_ K'}
section
variable{P:Program} {b:FB} {tm:Array C'} {df:n_ J'} {k:n_ Item} {cs:n_ K'} {w:G'}
def abT:step P (lone (eZ b tm df (.code .skip::k)) cs w)=.next (lone (eZ b tm df k) cs w):=
 step_lone_go (by simp[stepG,stepG.exec,eZ])
def RF{id:Nat}:step P (lone (eZ b tm df (.inBlock id::k)) cs w)=.next (lone (eZ b tm df k) cs w):=
 step_lone_go (by simp[stepG,stepG.exec,eZ])
def aey{x y:T'}:step P (lone (eZ b tm df (.code (.seq x y)::k)) cs w)=.next (lone (eZ b tm df (.code x:: .code y::k)) cs w):=
 step_lone_go (by simp[stepG,stepG.exec,eZ])
def T4{c:H'}{d a:T'}(e:Hw tm c=.bool L):
  step P (lone (eZ b tm df (.code (.cond c d a)::k)) cs w)=.next (lone (eZ b tm df (.code (if L then d else a)::k)) cs w):=
 step_lone_go (by
  have:=congrFun (FJ b tm df (.code (.cond c d a)::k)) c;simp only[eZ]at this;simp[stepG,stepG.exec,eZ,this,e])
def YM{id:Nat}{c:T'}:step P (lone (eZ b tm df (.code (.block id c)::k)) cs w)=.next (lone (eZ b tm df (.code c:: .inBlock id::k)) cs w):=
 step_lone_go (by simp[stepG,stepG.exec,eZ])
def T6{c:T'}:step P (lone (eZ b tm df (.code (.loop c)::k)) cs w)=.next (lone (eZ b tm df (.code c:: .inLoop c::k)) cs w):=
 step_lone_go (by simp[stepG,stepG.exec,eZ])
def VD{c:T'}:step P (lone (eZ b tm df (.inLoop c::k)) cs w)=.next (lone (eZ b tm df (.code c:: .inLoop c::k)) cs w):=
 step_lone_go (by simp[stepG,stepG.exec,eZ])
def abU{id:Nat}(a:exitTo id k=q' Y):step P (lone (eZ b tm df (.code (.exit id)::k)) cs w)=.next (lone (eZ b tm df Y) cs w):=
 step_lone_go (by simp[stepG,stepG.exec,eZ,a])
def aez(a:b.round=u'):step P (lone (eZ b tm df (.code .ret::k)) cs w)=.next (lone {eZ b tm df (.code .ret::k)with mode:=.returning} cs w):=
 step_lone_go (by simp[stepG,stepG.exec,eZ,a])
def aeA(a:b.round=u'):step P (lone (eZ b tm df []) cs w)=.next (lone {eZ b tm df []with mode:=.returning} cs w):=
 step_lone_go (by simp[stepG,stepG.exec,eZ,a])
def VE{id:Nat}{ops:Array M'}:step P (lone (eZ b tm df (.code (.region id ops B')::k)) cs w)=.next (lone (eZ b tm df (.inRegion ops (aiG ops.size)::k)) cs w):=
 step_lone_go (by simp[stepG,stepG.exec,eZ])
def FK{id:Nat}{ops:Array M'}:step P (lone (eZ b tm df (.code (.region id ops A')::k)) cs w)=
   .next (lone (eZ b tm df (.inRegion ops (Region.schedule (P.follows .mixedOrders) ops (w.tape w.drawn (.order b.fn id)))::k)) cs {w with drawn:=w.drawn+1}):=
 step_lone_go (by simp[stepG,stepG.exec,eZ,choose,Sem.run,Question.forced,Question.cut])
def sY{ops:Array M'}:step P (lone (eZ b tm df (.inRegion ops []::k)) cs w)=.next (lone (eZ b tm df k) cs w):=
 step_lone_go (by simp[stepG,stepG.exec,eZ])
def oB(tm:Array C')(a:Option Tmp)(v:C'):Array C':=
 match a with
 |some b=>tm.setIfInBounds b v
 |none=>tm
def mQ{ops:Array M'}(c:ops[g]?=q' z)(v:C'):
  (eZ b tm df (.inRegion ops (g::A)::k)).finish v=eZ b (oB tm z.dst v) df (.inRegion ops A::k):=by
 cases a:z.dst<;>simp[Frame.finish,eZ,oB,c,a]
def DE{ops:Array M'}(a:ops[g]?=q' z)(c:Region.wanted z (yielded ops tm)=B'):
  step P (lone (eZ b tm df (.inRegion ops (g::A)::k)) cs w)=.next (lone (eZ b (oB tm z.dst undef) df (.inRegion ops A::k)) cs w):=by
 rw[<-mQ a];exact step_lone_go (by
  simp only[eZ];simp[stepG,stepG.exec,a,c])
theorem oT{ops:Array M'}(f:ops[g]?=q' z)(e:Region.wanted z (yielded ops tm)=A')(h:b.round=u'∨∀c,z.op≠.defer c):
  stepG P A' {frame:=eZ b tm df (.inRegion ops (g::A)::k),callers:=cs,status:=.running,dying:=u'} w=
   stepG.apply P A' (eZ b tm df (.inRegion ops (g::A)::k)) cs u' (execOp (Hw tm) z) w:=by
 have a:=FJ b tm df (.inRegion ops (g::A)::k);simp only[eZ]at a;have d:(match b.round,z.op with
   |some i,.defer c=>stepG.apply P A' (eZ b tm df (.inRegion ops (g::A)::k)) cs u' (do Instr.deferInRound i (<-resolve (Hw tm) c z.type);pure .skip) w
   |_,_=>stepG.apply P A' (eZ b tm df (.inRegion ops (g::A)::k)) cs u' (execOp (Hw tm) z) w)=stepG.apply P A' (eZ b tm df (.inRegion ops (g::A)::k)) cs u' (execOp (Hw tm) z) w:=by
  all_goals grind
 rw[<-d];simp[stepG,stepG.exec,stepG.oper,Frame.oper?,eZ,f,e,a];rfl
theorem AD{ops:Array M'}(a:ops[g]?=q' z)(f:Region.wanted z (yielded ops tm)=A')(e:b.round=u'∨∀c,z.op≠.defer c){v:C'} 
  (d:(execOp (Hw tm) z).run P w=.ok (.value v) J∨((execOp (Hw tm) z).run P w=.ok .skip J/\v=undef)):
  step P (lone (eZ b tm df (.inRegion ops (g::A)::k)) cs w)=.next (lone (eZ b (oB tm z.dst v) df (.inRegion ops A::k)) cs J):=by
 rw[<-mQ a];refine step_lone_go ?_;rw[oT a f e];rcases d with d|⟨d,rfl⟩
 ·simp[stepG.apply,d]
 simp[stepG.apply,d]
def YN{ops:Array M'}{rest:n_ Nat}(e:ops[g]?=q' z)(d:Region.wanted z (yielded ops tm)=A')(a:b.round=u'∨∀c,z.op≠.defer c) 
  (f:(execOp (Hw tm) z).run P w=.ok (.enter H B) J):
  step P (lone (eZ b tm df (.inRegion ops (g::rest)::k)) cs w)=.next (lone (Frame.enter P H B .normal) (eZ b tm df (.inRegion ops (g::rest)::k)::cs) J):=by
 refine step_lone_go ?_;rw[oT e d a];simp[stepG.apply,f,eZ]
def Ou{ops:Array M'}(h:ops[g]?=q' z)(f:Region.wanted z (yielded ops tm)=A')(e:b.round=u'∨∀c,z.op≠.defer c){a d:T'} 
  (i:(execOp (Hw tm) z).run P w=.ok (.round Q H B a d) J):
  step P (lone (eZ b tm df (.inRegion ops (g::A)::k)) cs w)=.next (lone (Frame.round Q H B a d .normal) (eZ b tm df (.inRegion ops (g::A)::k)::cs) J):=by
 refine step_lone_go ?_;rw[oT h f e];simp[stepG.apply,i]
def YO{ops:Array M'}(a:ops[g]?=q' z)(d:Region.wanted z (yielded ops tm)=A')(c:b.round=u'){e:J'} 
  (f:(execOp (Hw tm) z).run P w=.ok (.defer e) J):
  step P (lone (eZ b tm df (.inRegion ops (g::A)::k)) cs w)=.next (lone (eZ b (oB tm z.dst undef) (e::df) (.inRegion ops A::k)) cs J):=by
 rw[<-mQ (df:=e::df) a];refine step_lone_go ?_;rw[oT a d (.inl c)];simp[stepG.apply,f,eZ]
def YP{ops:Array M'}(e:ops[g]?=q' z)(d:Region.wanted z (yielded ops tm)=A')(a:b.round=u'∨∀c,z.op≠.defer c){v:C'} 
  (f:(execOp (Hw tm) z).run P w=.halt (.panic v) J):
  step P (lone (eZ b tm df (.inRegion ops (g::A)::k)) cs w)=.next (lone {eZ b tm df (.inRegion ops (g::A)::k)with mode:=.panicking [{v,recovered:=B'}]} cs J):=by
 refine step_lone_go ?_;rw[oT e d a];simp[stepG.apply,f,eZ,Frame.raise]
def AE:n_ K'->n_ K'
 |[]=>[]
 |c::b=>(match c.mode with
  |.panicking ({v,recovered:=B',goexit:=B'}::a)=>{c with mode:=.panicking ({v,recovered:=A'}::a)}
  |_=>c)::b
theorem Eg{ops:Array M'}{i:Nat}{rest:n_ Nat}(ho:ops[i]?=q' z)(hw:Region.wanted z (yielded ops tm)=A')(hd:b.round=u') 
  (h:(execOp (Hw tm) z).run P w=.ok .recover J) (hn:tryRecover (eZ b tm df (.inRegion ops (i::rest)::k)) cs=u'):
  step P (lone (eZ b tm df (.inRegion ops (i::rest)::k)) cs w)=.next (lone (eZ b (oB tm z.dst .nilIface) df (.inRegion ops rest::k)) cs J):=by
 rw[<-mQ ho];exact JO
def Eh{ops:Array M'}{i:Nat}{rest:n_ Nat}(ho:ops[i]?=q' z)(hw:Region.wanted z (yielded ops tm)=A')(hd:b.round=u'){v:C'} 
  (h:(execOp (Hw tm) z).run P w=.ok .recover J) (hn:tryRecover (eZ b tm df (.inRegion ops (i::rest)::k)) cs=q' (v,M)):
  step P (lone (eZ b tm df (.inRegion ops (i::rest)::k)) cs w)=.next (lone (eZ b (oB tm z.dst v) df (.inRegion ops rest::k)) M J):=by
 rw[<-mQ ho];exact JO
end
def FL(ρ:Ren):n_ J'->n_ J'->Prop
 |[],[]=>True
 |d::c,b::a=>af2 ρ d b/\FL ρ c a
 |_,_=>False
def L4(ρ:Ren)(d:Option Nat)(b:FB):Prop:=
 match d with
 |none=>b.round=u'
 |some c=>∃a,ρ c=q' a/\b.round=q' a.b
def kindOf(a:Bool):CallKind:=if a then .deferred else .normal
structure o7 (ρ:Ren) (fc:FC) (fr:Fr) (b:FB) (tm:Array C') (df:List J'):Prop where
 fn:b.fn=fc.fn
 round:L4 ρ fc.round b
 kind:b.kind=kindOf fc.Hv
 tm:pP ρ fc.nt fr.tm tm
 df:FL ρ fr.df df
def wy(ρ:Ren)(b:Bool)(ps:eM)(cs:n_ K'):Prop:=
 match b,ps with
 |false,_=>True
 |true,.none=>∃c d,cs=c::d/\c.mode=.returning
 |true,.hD v=>∃c d a,cs=c::d/\c.mode=.panicking [{v:=a,recovered:=B'}]/\dA ρ v a
 |true,.tC=>∃c d a,cs=c::d/\c.mode=.panicking [{v:=a,recovered:=A'}]
def rn(ps b:eM)(cs a:n_ K'):Prop:=
 (b=ps/\a=cs)∨(∃v,ps=.hD v/\b=.tC/\a=AE cs)
def rn.refl(ps:eM)(cs:n_ K'):rn ps ps cs cs:=.inl ⟨rfl,rfl⟩
def rn.trans{e b c:eM}{a d:n_ K'}(f:rn e b M a)(k:rn b c a d):rn e c M d:=by
 rcases f with⟨rfl,rfl⟩|⟨v,rfl,rfl,rfl⟩
 ·exact k
 rcases k with⟨rfl,rfl⟩|⟨h,i,_,_⟩
 ·exact .inr ⟨v,Z,Z,Z⟩
 cases i
def wy.step{ρ:Ren}{ps b:eM}{cs a:n_ K'}(f:wy ρ L ps cs)(k:rn ps b cs a):wy ρ L b a:=by
 rcases k with⟨rfl,rfl⟩|⟨v,rfl,rfl,rfl⟩
 ·exact f
 cases L with
 |false=>trivial
 |true=>
  obtain⟨c,h,d,rfl,e,_⟩:=f;exact⟨{c with mode:=.panicking [{v:=d,recovered:=A'}]},h,d,by simp[AE,e],Z⟩
def wy.mono{ρ b:Ren}(d:ρ.le b){a:Bool}{ps:eM}{cs:n_ K'}(f:wy ρ a ps cs):wy b a ps cs:=by
 cases a with
 |false=>trivial
 |true=>
  cases ps with
  |none=>exact f
  |hD v=>have⟨c,j,h,k,e,i⟩:=f;exact⟨c,j,h,k,e,i.mono d⟩
  |tC=>exact f
def Oq.mono{ρ a:Ren}(b:ρ.le a){e d:Target}(c:Oq ρ e d):Oq a e d:=by
 unfold Oq at c⊢;split at c
 ·have⟨i,h,f⟩:=c;exact⟨i,b _ _ h,f⟩
 ·exact⟨c.1,c.2.mono b⟩
 exact c.elim
def FL.mono{ρ c:Ren}(a:ρ.le c):∀{e b:n_ J'},FL ρ e b->FL c e b
 |[],[],_=>trivial
 |_::_,_::_,⟨d,f⟩=>⟨⟨d.target.mono a,d.args.mono a⟩,FL.mono a f⟩
 |[],_::_,k=>k.elim
 |_::_,[],k=>k.elim
def L4.mono{ρ a:Ren}(c:ρ.le a){d:Option Nat}{b:FB}(e:L4 ρ d b):L4 a d b:=by
 cases d with
 |none=>exact e
 |some i=>have⟨f,h,k⟩:=e;exact⟨f,c _ _ h,k⟩
def o7.mono{ρ c:Ren}(a:ρ.le c){fc:FC}{fr:Fr}{b:FB}{tm:Array C'}{df:n_ J'}(d:o7 ρ fc fr b tm df):o7 c fc fr b tm df:=
 ⟨d.fn,d.round.mono a,d.kind,d.tm.mono a,d.df.mono a⟩
def Hx(P:Program)(m:Q')(ρ:Ren)(b:FB)(k:n_ Item)(tm:Array C')(df:n_ J')(cs:n_ K')(w:G'):Ex->Prop
 |.norm=>Steps P m (lone (eZ b tm df k) cs w)
 |.exit id=>∃a,Steps P m (lone (eZ b tm df (.code (.exit id)::a)) cs w)/\exitTo id a=exitTo id k
 |.ret=>∃a,Steps P m (lone (eZ b tm df (.code .ret::a)) cs w)
 |.panic v=>∃a c,dA ρ v c/\Steps P m (lone {eZ b tm df a with mode:=.panicking [{v:=c,recovered:=B'}]} cs w)
variable{U:Ex}
def Hx.of_steps{P:Program}{m c:Q'}{ρ:Ren}{b:FB}{k:n_ Item}{tm:Array C'}{df:n_ J'}{cs:n_ K'}{w:G'}(d:Steps P m c)(e:Hx P c ρ b k tm df cs w U):Hx P m ρ b k tm df cs w U:=by
 cases U with
 |norm=>exact d.trans e
 |exit id=>have⟨a,s,i⟩:=e;exact⟨a,d.trans s,i⟩
 |ret=>have⟨a,s⟩:=e;exact⟨a,d.trans s⟩
 |panic v=>have⟨a,f,h,s⟩:=e;exact⟨a,f,h,d.trans s⟩
section
variable(C:eN) (w0:G') (N0:Nat) (G:Nat->Prop)
def jt(ρ:Ren)(fc:FC)(m:Q')(b:FB)(k:n_ Item)(ps:eM)(cs:n_ K')(j:Ex)(i:Fr)(h:eM)(dy:St):Prop:=
 ∃a f e c d,ρ.le a/\dQ w0 N0 G a dy f/\o7 a fc i b e c/\rn ps h cs d/\Hx C.P m a b k e c d f j
def ES(ρ:Ren)(i:FuncId)(d:Array C')(f:Bool)(ps:eM)(j:CR)(h:eM)(dy:St)(cs:n_ K')(w:G'):Prop:=
 ∃a c F e,ρ.le a/\dQ w0 N0 G a dy c/\rn ps h cs e/\Steps C.P (lone (Frame.enter C.P i d (kindOf f)) cs w) (lone F e c)/\F.fn=i/\F.defers=[]/\F.kind=kindOf f/\(∃fn,C.P.funcs[i]?=q' fn/\
  match j with
  |.ret v=>F.mode=.returning/\∃b,(results fn F.tmps).run C.P c=.ok b c/\dA a v b
  |.fJ v=>∃b,F.mode=.panicking [{v:=b,recovered:=B'}]/\dA a v b)
def Ov(ρ:Ren)(j:Loc)(h:Array C')(k:CR)(dy:St)(w:G'):Prop:=
 ∃fn d a b,(Instr.yield j.b h).run C.P w=.ok (.round j.b fn d a b) w/\∀(c:K') (cs:n_ K'),∃e i,ρ.le e/\dQ w0 N0 G e dy i/\
  match k with
  |.ret v=>∃f,dA e v f/\Steps C.P (lone (Frame.round j.b fn d a b .normal) (c::cs) w) (lone (c.finish f) cs i)
  |.fJ v=>∃f,dA e v f/\Steps C.P (lone (Frame.round j.b fn d a b .normal) (c::cs) w) (lone (c.raise [{v:=f,recovered:=B'}]) cs i)
structure y5 (rc:Rec):Prop where
 code:∀fc c fr ps st x fr' ps' dy,rc.code fc c fr ps st=q' (x,fr',ps',dy)->codeOk c=A'->∀ρ w b tm df cs k,dQ w0 N0 G ρ st w->o7 ρ fc fr b tm df->wy ρ fc.Hv ps cs->
  jt C w0 N0 G ρ fc (lone (eZ b tm df (.code c::k)) cs w) b k ps cs x fr' ps' dy
 call:∀f args Hv ps st cr ps' dy,rc.call f args Hv ps st=q' (cr,ps',dy)->∀ρ w Ow cs,dQ w0 N0 G ρ st w->du ρ args Ow.toList->wy ρ Hv ps cs->
  ES C w0 N0 G ρ f Ow Hv ps cr ps' dy cs w
 round:∀l args st cr dy,rc.round l args st=q' (cr,dy)->∀ρ w L Ow,dQ w0 N0 G ρ st w->ρ l=q' L->du ρ args Ow.toList->Ov C w0 N0 G ρ L Ow cr dy w
end
variable{I:Tr C'} {N:Option Tmp} {T:Ee} {V:eM}
section
variable{C:eN} {w0:G'} {N0:Nat} {G:Nat->Prop} {ρ:Ren} {fc:FC} {fr:Fr} {ps:eM} {st:St} {b:FB} {tm:Array C'} {df:n_ J'} {cs:n_ K'} {w:G'}
theorem pP.get(b:pP ρ g I tm){i:Nat}{v:C'}(a:I.get i=q' v):dA ρ v (tm.getD i undef):=by
 have⟨c,e,d⟩:=b.2 _ _ a
 simp_all
def HJ{v:C'}(a:tH v=A')(ρ:Ren):dA ρ v v:=by
 unfold tH at a;split at a
 ·exact .agg (kR a ρ)
 exact wq a ρ
def rp(e:pP ρ g fr.tm tm):qo ρ (nR fr) (Hw tm):=by
 intro c v a;cases c with
 |tmp i=>exact e.get a
 |const f=>
  simp only[nR]at a;split at a
  ·rename_i b;cases a;exact HJ b ρ
  cases a
 |global h=>cases a
 |func d=>cases a;exact .func d .nil .nil
theorem jH{nt:Nat}{dst:Option Tmp}{v v':C'}{fr':Fr}(e:pP ρ nt fr.tm tm)(f:dA ρ v v')(a:kr nt fr dst v=q' fr'):pP ρ nt fr'.tm (oB tm dst v')/\fr'.df=fr.df:=by
 unfold kr at a;split at a
 ·cases a;exact⟨e,rfl⟩
 rename_i h;split at a
 ·rename_i b;cases a;have b:=aiK.mp b;refine⟨⟨by simp[oB,e.1],λi k c=>?_⟩,Z⟩;rw[dx]at c;by_cases d:i=h
  ·subst d;rw[X' rfl]at c;cases c;exact⟨v',by simp only[oB];rw[aix (by rw[e.1];exact b)],f⟩
  rw[W' d]at c;have⟨j,m,l⟩:=e.2 _ _ c
  grind [oB]
 cases a
theorem zp{ops:Array M'}(m:pP ρ g fr.tm tm)(a:jd ops.toList fr z=q' L):Region.wanted z (yielded ops tm)=L:=by
 unfold jd at a;unfold Region.wanted;split at a
 ·rename_i e;cases a;rw[e]
 rename_i o c e;rw[e];split at a
 ·cases a
 rename_i r k;rw[cx,aiw]at k;split at a
 ·cases a
 rename_i q n;have j:yielded ops tm o=(match tm[q]? with|some (.bool b)=>q' b|_=>u'):=by
  unfold yielded
  grind
 simp only[j];split at a
 ·rename_i i d;cases a;have⟨h,l,f⟩:=m.2 _ _ d;cases f;rw[l];cases i<;>cases c<;>rfl
 ·rename_i p d;cases a;have⟨h,l,f⟩:=m.2 _ _ d;cases f;rw[l];rfl
 cases a
def adP(C:eN)(w0:G')(N0:Nat)(G:Nat->Prop)(ρ:Ren)(fc:FC)(m:Q')(b:FB)(tm:Array C')(df:n_ J')(ops:Array M')(o:Nat)(e:n_ Nat)(k:n_ Item)(ps:eM)(cs:n_ K')(n:Ee):Prop:=
 match n with
 |.next l d dy=>∃a c i f h,ρ.le a/\dQ w0 N0 G a dy c/\o7 a fc l b i f/\rn ps d cs h/\Steps C.P m (lone (eZ b i f (.inRegion ops e::k)) h c)
 |.fJ v _ d dy=>d=ps/\∃a c j,ρ.le a/\dQ w0 N0 G a dy c/\dA a v j/\Steps C.P m (lone {eZ b tm df (.inRegion ops (o::e)::k)with mode:=.panicking [{v:=j,recovered:=B'}]} cs c)
theorem AF{v:C'}(b:Ee.go g fr N v ps st=q' T):∃a,kr g fr N v=q' a/\T=.next a ps st:=by
 all_goals grind [Ee.go]
def o8(a:rn .none V cs M):V=.none/\M=cs:=by
 rcases a with a|⟨v,b,_⟩
 ·exact a
 cases b
theorem ju{C:eN}{ev:H'->Option C'}{b:AR}(a:kZ C ev z st=q' b)(d:∀e,b≠.defer e):∀c,z.op≠.defer c:=by
 intro c f;unfold kZ at a;rw[f]at a;simp only at a;split at a
 ·split at a
  ·unfold Fu at a;all_goals grind
  cases a
 cases a
theorem Ox(i:o7 ρ fc fr b tm df)(e:wy ρ fc.Hv ps cs)(h:∀v,fc.Hv=A'->ps=.hD v->False):tryRecover (eZ b tm df Y) cs=u':=by
 cases d:fc.Hv with
 |false=>
  have a:b.kind=.normal:=by rw[i.kind,d];rfl
  simp[tryRecover,eZ,a]
 |true=>
  have a:b.kind=.deferred:=by rw[i.kind,d];rfl
  rw[d]at e;cases ps with
  |none=>
   obtain⟨c,j,rfl,f⟩:=e;simp[tryRecover,eZ,a,f]
  |hD v=>exact(h v d rfl).elim
  |tC=>
   obtain⟨c,j,k,rfl,f⟩:=e;simp[tryRecover,eZ,a,f]
theorem Oy(L:qb C)(M:L3 C)(N:qp C){rc:Rec}(aa:y5 C w0 N0 G rc)(X:pM C rc fc z fr ps st=q' T)(n:dQ w0 N0 G ρ st w)(a:o7 ρ fc fr b tm df)(ak:wy ρ fc.Hv ps cs) 
  {ops:Array M'} (h:n_ Nat) (k:n_ Item) (E:ops[g]?=q' z) (i:Region.wanted z (yielded ops tm)=A'):
  adP C w0 N0 G ρ fc (lone (eZ b tm df (.inRegion ops (g::h)::k)) cs w) b tm df ops g h k ps cs T:=by
 unfold pM at X;have A:=rp a.tm;split at X
 ·cases X
 ·rename_i v dy j;obtain⟨H,u,rfl⟩:=AF X;have⟨m,l,D,q,r⟩:=sj L M N n A j;have⟨t,B⟩:=jH (a.tm.mono r.le) r.value u;refine⟨m,D,oB tm z.dst l,df,cs,r.le,r.world,⟨a.fn,a.round.mono r.le,a.kind,t,by rw[B];exact a.df.mono r.le⟩,.refl _ _,.one ?_⟩
  grind [AD,ju]
 ·rename_i v dy j;cases X;obtain⟨rfl,l,q,x⟩:=sj L M N n A j;exact⟨Z,ρ,w,l,Ren.le_refl _,n,x,.one (YP E i (.inr (ju j (by intro aj ad;cases ad))) q)⟩
 ·rename_i au ab j;have⟨p,q,o⟩:=sj L M N n A j;have Q:=YN (P:=C.P) (b:=b) (df:=df) (k:=k) (cs:=cs) (rest:=h) E i (.inr (ju j (by intro aj ad;cases ad))) q;split at X
  ·rename_i v an dy J;obtain⟨H,u,rfl⟩:=AF X;have⟨m,D,F,al,e,s,U,d,W,B,ah,fn,I,V,l,af,x⟩:=aa.call _ _ _ _ _ _ _ _ J ρ w p (eZ b tm df (.inRegion ops (g::h)::k)::cs) n o trivial;obtain⟨_,rfl⟩:=o8 U;have⟨t,f⟩:=jH (a.tm.mono e) x u;refine⟨m,D,oB tm z.dst l,df,cs,e,s,⟨a.fn,a.round.mono e,a.kind,t,by rw[f];exact a.df.mono e⟩,.refl _ _,?_⟩;refine .head Q (d.trans (.one ?_));rw[<-mQ E];exact step_leave_returned ⟨V,B,ah,fn,by rw[W];exact I,af⟩
  ·rename_i v an dy J;cases X;have⟨m,D,F,al,e,s,U,d,W,B,ah,fn,I,l,V,x⟩:=aa.call _ _ _ _ _ _ _ _ J ρ w p (eZ b tm df (.inRegion ops (g::h)::k)::cs) n o trivial;obtain⟨_,rfl⟩:=o8 U;refine⟨Z,m,D,l,e,s,x,.head Q (d.trans (.one ?_))⟩;have:=step_leave_panicked (P:=C.P) (c:=eZ b tm df (.inRegion ops (g::h)::k)) (cs:=cs) (w:=D) (fr:=F) ⟨V,B,fn,by rw[W];exact I⟩;rw[this];rfl
  cases X
 ·rename_i av ab j;have⟨ar,p,ai,o,q⟩:=sj L M N n A j;split at X
  ·rename_i v dy J;obtain⟨H,u,rfl⟩:=AF X;have⟨fn,ae,R,ac,ag,d⟩:=aa.round _ _ _ _ _ J ρ w ar p n ai o;rw[ag]at q;have⟨m,D,e,s,l,x,K⟩:=d (eZ b tm df (.inRegion ops (g::h)::k)) cs;have⟨t,f⟩:=jH (a.tm.mono e) x u;refine⟨m,D,oB tm z.dst l,df,cs,e,s,⟨a.fn,a.round.mono e,a.kind,t,by rw[f];exact a.df.mono e⟩,.refl _ _,?_⟩;refine .head (Ou E i (.inr (ju j (by intro aj ad;cases ad))) q) ?_;rw[mQ E]at K;exact K
  ·rename_i v dy J;cases X;have⟨fn,ae,R,ac,ag,d⟩:=aa.round _ _ _ _ _ J ρ w ar p n ai o;rw[ag]at q;have⟨m,D,e,s,l,x,K⟩:=d (eZ b tm df (.inRegion ops (g::h)::k)) cs;exact⟨Z,m,D,l,e,s,x,.head (Ou E i (.inr (ju j (by intro aj ad;cases ad))) q) K⟩
  cases X
 ·rename_i j;have q:(execOp (Hw tm) z).run C.P w=.ok .recover w:=sj L M N n A j;split at X
  ·cases X
  rename_i y;have O:b.round=u':=by have:=a.round;rw[y]at this;exact this
  split at X
  ·rename_i v S;obtain⟨H,u,rfl⟩:=AF X;rw[S]at ak;obtain⟨c,am,l,rfl,V,x⟩:=ak;have⟨t,f⟩:=jH a.tm x u;have Y:b.kind=.deferred:=by rw[a.kind,S];rfl
   refine⟨ρ,w,oB tm z.dst l,df,AE (c::am),Ren.le_refl _,n,⟨a.fn,a.round,a.kind,t,by rw[f];exact a.df⟩,.inr ⟨v,Z,Z,Z⟩,.one ?_⟩;refine Eh E i O q ?_;simp[tryRecover,eZ,Y,V,AE]
  rename_i aq;obtain⟨H,u,rfl⟩:=AF X;have⟨t,f⟩:=jH a.tm .nilIface u;refine⟨ρ,w,oB tm z.dst .nilIface,df,cs,Ren.le_refl _,n,⟨a.fn,a.round,a.kind,t,by rw[f];exact a.df⟩,.refl _ _,.one ?_⟩
  grind [Eg,Ox]
 rename_i aj j;have⟨ap,q,ao⟩:=sj L M N n A j;split at X
 ·cases X
 rename_i y;have O:b.round=u':=by have:=a.round;rw[y]at this;exact this
 obtain⟨H,u,rfl⟩:=AF X;have⟨t,f⟩:=jH (fr:={fr with df:=aj::fr.df}) (v':=undef) a.tm (.tuple .nil) u;refine⟨ρ,w,oB tm z.dst undef,ap::df,cs,Ren.le_refl _,n,⟨a.fn,a.round,a.kind,t,by rw[f];exact⟨ao,a.df⟩⟩,.refl _ _,.one ?_⟩;exact YO E i O q
def qI(m:qb C)(n:L3 C)(o:qp C){rc:Rec}(r:y5 C w0 N0 G rc){ops:Array M'}(j:mP C rc fc ops.toList z fr ps st=q' T)(h:dQ w0 N0 G ρ st w)(a:o7 ρ fc fr b tm df)(p:wy ρ fc.Hv ps cs)(c:n_ Nat)(k:n_ Item)(i:ops[g]?=q' z):
  adP C w0 N0 G ρ fc (lone (eZ b tm df (.inRegion ops (g::c)::k)) cs w) b tm df ops g c k ps cs T:=by
 unfold mP at j;split at j
 ·cases j
 ·rename_i d;obtain⟨s,q,rfl⟩:=AF j;have e:=zp a.tm d;have⟨l,f⟩:=jH (v':=undef) a.tm (.tuple .nil) q;exact⟨ρ,w,oB tm z.dst undef,df,cs,Ren.le_refl _,h,⟨a.fn,a.round,a.kind,l,by rw[f];exact a.df⟩,.refl _ _,.one (DE i e)⟩
 rename_i d;exact Oy m n o r j h a p c k i (zp a.tm d)
theorem VF{rc:Rec}{v:C'}{a:Fr}{dy:St}(b:pM C rc fc z fr ps st=q' (.fJ v a V dy)):a=fr:=by
 unfold pM at b;repeat' split at b
 all_goals first
  |cases b;done
  |(have⟨_,_,c⟩:=AF b;cases c;done)
  |(cases b;rfl)
theorem FM{rc:Rec}{ops:n_ M'}{v:C'}{a:Fr}{dy:St}(b:mP C rc fc ops z fr ps st=q' (.fJ v a V dy)):a=fr:=by
 all_goals grind [mP,AF,VF]
theorem L5(I:qb C)(J:L3 C)(K:qp C){rc:Rec}(S:y5 C w0 N0 G rc){ops:Array M'}(k:n_ Item):∀(F:n_ M') (f:Nat) (fr:Fr) (ps:eM) (st:St) (ρ:Ren) (w:G') (tm:Array C') (df:n_ J') (cs:n_ K') (E:Ex) (d:Fr) (a:eM) (dy:St),
  F=ops.toList.drop f->ri C rc fc ops.toList F fr ps st=q' (E,d,a,dy)->dQ w0 N0 G ρ st w->o7 ρ fc fr b tm df->wy ρ fc.Hv ps cs->
  jt C w0 N0 G ρ fc (lone (eZ b tm df (.inRegion ops ((aiG ops.size).drop f)::k)) cs w) b k ps cs E d a dy:=by
 intro F;induction F with
 |nil=>
  intro f fr ps st ρ w tm df cs E d a dy o q m j n;simp only[ri,Option.some.injEq,Prod.mk.injEq]at q;obtain⟨rfl,rfl,rfl,rfl⟩:=q;have R:ops.size<=f:=by
   simp_all
  refine⟨ρ,w,tm,df,cs,Ren.le_refl _,m,j,.refl _ _,?_⟩;rw[List.drop_eq_nil_of_le (by simpa using R)];exact .one sY
 |cons aa F V=>
  intro f fr ps st ρ w tm df cs E d a dy o q m j n;have R:f<ops.size:=by
   have:=d_ j' o;simp at this;omega
  have L:ops[f]?=q' aa:=by
   have:=d_ (λab=>ab[0]?) o
   grind
  have M:F=ops.toList.drop (f+1):=by
   have:=d_ List.tail o;simpa using this
  have c:(aiG ops.size).drop f=f::(aiG ops.size).drop (f+1):=by
   grind [List.drop_eq_getElem_cons]
  simp only[ri]at q;split at q
  ·cases q
  ·rename_i r u s p;have⟨i,w1,O,X,N,e,l,T,t,h⟩:=qI I J K S p m j n ((aiG ops.size).drop (f+1)) k L;have⟨z,Y,B,H,P,y,A,Q,D,x⟩:=V (f+1) r u s i w1 O X N E d a dy M q l T ((n.mono e).step t);refine⟨z,Y,B,H,P,e.trans y,A,Q,t.trans D,?_⟩;rw[c];exact .of_steps h x
  rename_i v r u s p;simp only[Option.some.injEq,Prod.mk.injEq]at q;obtain⟨rfl,rfl,rfl,rfl⟩:=q;have g:=FM p;subst g;obtain⟨rfl,i,w1,U,e,l,W,h⟩:=qI I J K S p m j n ((aiG ops.size).drop (f+1)) k L;refine⟨i,w1,tm,df,cs,e,l,j.mono e,.refl _ _,?_⟩;rw[c];exact⟨_,U,W,h⟩
end
def abV{a b:Fn}(c:YB a b=A'):a=b:=by
 cases a<;>cases b<;>simp[YB]at c<;>rw[c]
theorem K5{a b:Addr}(d:addrEq a b=A'):a=b:=by
 have⟨i,h,j⟩:=a;have⟨f,e,c⟩:=b;simp only[addrEq,ais,aiF]at d
 grind
def Oz{c b:ByteArray}(a:pO c b=A'):c=b:=by
 rw[pO,si,beq_iff_eq]at a;apply ByteArray.ext;exact Array.ext' a
mutual
theorem wz:∀(a b:C'),qa a b=A'->a=b
 |.func f ⟨x⟩ ⟨y⟩,b,h=>by
  cases b<;>first|(simp[qa]at h;done)|skip
  rename_i f' x' y';obtain⟨x'⟩:=x';obtain⟨y'⟩:=y';simp only[qa,ais]at h;rw[abV h.1.1,Ar x x' h.1.2,Ar y y' h.2]
 |.iface t v,b,h=>by
  cases b<;>first|(simp[qa]at h;done)|skip
  rename_i t' v';simp only[qa,ais,aiF]at h;rw[h.1,wz v v' h.2]
 |.agg ⟨x⟩,b,h=>by
  exact Kn
 |.tuple ⟨x⟩,b,h=>by
  exact Kn
 |.bool a,b,h=>by
  cases b<;>first|(simp[qa]at h;done)|(simp[qa]at h;rw[h])
 |.int k a,b,h=>by
  cases b<;>first|(simp[qa]at h;done)|skip
  simp only[qa,ais]at h;rw[uE.1 h.1,FA.1 h.2]
 |.string a,b,h=>by
  cases b<;>first|(simp[qa]at h;done)|skip
  simp only[qa]at h;rw[Oz h]
 |.pointer u',b,h=>by
  exact Ky
 |.pointer (q' a),b,h=>by
  cases b<;>first|(simp[qa]at h;done)|skip
  rename_i q;cases q<;>first|(simp[qa]at h;done)|(simp only[qa]at h;rw[K5 h])
 |.slice u' l c,b,h=>by
  cases b<;>first|(simp[qa]at h;done)|skip
  rename_i q l' c';cases q<;>first|(simp[qa]at h;done)|skip
  simp only[qa,ais,aiF]at h;rw[h.1,h.2]
 |.slice (q' a) l c,b,h=>by
  cases b<;>first|(simp[qa]at h;done)|skip
  rename_i q l' c';cases q<;>first|(simp[qa]at h;done)|skip
  simp only[qa,ais,aiF]at h;rw[K5 h.1.1,h.1.2,h.2]
 |.map u',b,h=>by
  exact Ky
 |.map (q' a),b,h=>by
  cases b<;>first|(simp[qa]at h;done)|skip
  rename_i q;cases q<;>first|(simp[qa]at h;done)|(simp only[qa,aiF]at h;rw[h])
 |.nilFunc,b,h=>by cases b<;>first|rfl|(simp[qa]at h;done)
 |.nilIface,b,h=>by cases b<;>first|rfl|(simp[qa]at h;done)
 |.float k x,b,h=>by cases b<;>(simp[qa]at h;done)
 |.complex k x y,b,h=>by cases b<;>(simp[qa]at h;done)
 |.chan r,b,h=>by cases b<;>(simp[qa]at h;done)
theorem Ar:∀(a b:n_ C'),CB a b=A'->a=b
 |[],[],_=>rfl
 |x::a,y::b,h=>by
  simp only[CB,ais]at h;rw[wz x y h.1,Ar a b h.2]
 |[],_::_,h=>by simp[CB]at h
 |_::_,[],h=>by simp[CB]at h
end
def AH:∀{h b:n_ MapEntry},q5 h b=A'->h=b
 |[],[],_=>rfl
 |x::h,i::b,a=>by
  simp only[q5,TV,ais,aiF]at a;have⟨⟨⟨d,c⟩,e⟩,f⟩:=a;have⟨k,v,n⟩:=x;have⟨m,l,j⟩:=i;rw[AH f];simp only at d c e;rw[wz _ _ d,wz _ _ c,e]
 |[],_::_,a=>by simp[q5]at a
 |_::_,[],a=>by simp[q5]at a
theorem OA{c b:gJ}(a:As c b=A'):c=b:=by
 cases c<;>cases b<;>first|(simp[As]at a;done)|skip
 ·simp only[As,ais,aiF]at a
  grind [Ar]
 ·simp only[As,ais,aiF]at a;rw[AH a.1,a.2]
 simp only[As,ais,aiF]at a;rw[Oz a.1,a.2]
section
variable{C:eN} {ev HK:H'->Option C'} {st:St}
def qJ:∀{xs:n_ H'},(∀a∈xs,ev a=HK a)->oW ev xs=oW HK xs:=by
 intro xs;induction xs with
 |nil=>intro _;rfl
 |cons a xs b=>intro d;simp only[oW];rw[d a sm,b (λe c=>d e (by simp[c]))]
def y6:∀{a:n_ (Nat×H')},(∀b∈a.map (·.2),ev b=HK b)->nQ ev a=nQ HK a:=by
 intro a;induction a with
 |nil=>intro _;rfl
 |cons b a d=>obtain⟨h,b⟩:=b;intro e;simp only[nQ];rw[e b sm,d (λf c=>e f (by simp at c⊢;exact .inr c))]
def CF(r:M')(d:∀e∈r.op.operands,ev e=HK e):kZ C ev r st=kZ C HK r st:=by
 unfold kZ;split
 case h_31=>rfl
 case h_4=>rfl
 case h_16=>rfl
 all_goals (rename_i m;rw[m]at d;simp only[Op.operands]at d)
 case h_30 e=>rw[d e sm]
 case h_6=>rw[y6 (ev:=ev) (HK:=HK) (λe a=>d e (by simpa using a))]
 case h_7=>rw[y6 (ev:=ev) (HK:=HK) (λe a=>d e (by simpa using a))]
 case h_15 u b=>rw[qJ (ev:=ev) (HK:=HK) (xs:=u.toList) (λe a=>d e (by simp;exact .inl (by simpa using a))),qJ (ev:=ev) (HK:=HK) (xs:=b.toList) (λe a=>d e (by simp;exact .inr (by simpa using a)))]
 case h_18 e p o n=>
  have q:=d e sm;have w:∀f,p=q' f->ev f=HK f:=λf h=>d f (by subst h;simp);have v:∀f,o=q' f->ev f=HK f:=λf h=>d f (by subst h;simp);have x:∀f,n=q' f->ev f=HK f:=λf h=>d f (by subst h;simp);rw[q];cases p<;>cases o<;>cases n<;>simp_all
 case h_28 c=>
  simp only[Call.operands]at d;rw[qJ (ev:=ev) (HK:=HK) (xs:=c.args.toList) (λe a=>d e (by simp;exact .inr (by simpa using a)))];split
  ·rfl
  split
  ·rfl
  ·rename_i s k;rw[d s (by rw[k];simp)]
  rfl
 case h_29 c=>
  simp only[Call.operands]at d;rw[qJ (ev:=ev) (HK:=HK) (xs:=c.args.toList) (λe a=>d e (by simp;exact .inr (by simpa using a)))];split
  ·rename_i s _ k;rw[d s (by rw[k];simp)]
  rfl
 all_goals first
  |rfl
  |(simp at d;simp only[d];done)
  |(simp at d;have⟨j,i⟩:=d;simp only[j,i];done)
  |(simp at d;have⟨j,i,t⟩:=d;simp only[j,i,t];done)
end
inductive Lin (ops:Array M'):(Nat->Bool)->List Nat->Prop
 |nil {D:Nat->Bool} (h:∀i,i<ops.size->D i=A'):Lin ops D []
 |cons {D:Nat->Bool} {i:Nat} {L:List Nat} {o:M'} (ho:ops[i]?=q' o) (hn:D i=B') (he:∀e∈o.after.toList,Region.binds .any e=A'->D e.on=A') (t:Lin ops (λx=>D x||x==i) L):Lin ops D (i::L)
def CG(ops:Array M'):Prop:=∀(c:Nat) (b:M'),ops[c]?=q' b->∀a∈b.after.toList,Region.binds .any a=A'->a.on<c
theorem VG{p q:Nat->Bool}:∀(a:n_ Nat),(∀d∈a,q d=A'->p d=A')->∀c∈a,p c=A'->q c=B'->a.countP q<a.countP p:=by
 intro a;induction a with
 |nil=>intro _ c b;simp at b
 |cons d a k=>
  intro l c b h j;have f:a.countP q<=a.countP p:=List.countP_mono_left λi e=>l i (by simp[e]);all_goals grind
theorem aeB{ops:Array M'}(P:CG ops):∀(b D:Nat) (listed:Array Bool) (f:n_ Nat),listed.size=ops.size->(aiG ops.size).countP (λa=> !listed.getD a B')<=b->
  ∃G,Region.linearise.go .any ops b D listed f=f.reverse++G/\Lin ops (λx=>listed.getD x B') G:=by
 intro b;induction b with
 |zero=>
  intro D listed f w A;refine⟨[],by simp[Region.linearise.go],.nil λa c=>?_⟩
  grind [List.countP_eq_zero,aiG]
 |succ b g=>
  intro D listed f w A;simp only[Region.linearise.go];generalize q:(aiG ops.size).filter (λa=> !listed.getD a A'&&((ops[a]?).map (·.after.all λF=> !Region.binds .any F||listed.getD F.on B')).getD B')=h;have p:∀a,a<ops.size->listed.getD a A'=listed.getD a B':=by
   grind
  cases u:h[D%j' h]? with
  |none=>
   have l:h=[]:=by
    cases h with
    |nil=>rfl
    |cons B H=>
     grind [Nat.mod_lt]
   refine⟨[],by simp,.nil λa=>?_⟩;induction a using Nat.strongRecOn with
   |_ a C=>
    intro c;cases o:listed.getD a B' with
    |true=>rfl
    |false=>
     exfalso;have d:a∈h:=by
      rw[<-q,aiT];refine⟨by simpa using c,?_⟩;rw[p a c,o,aiz c];simp only[Bool.not_false,Option.map_some,Option.getD_some,Bool.true_and];rw[Array.all_eq_true];intro y k;cases j:Region.binds .any ops[a].after[y]with
      |false=>rfl
      |true=>
       have v:=P a ops[a] (aiz c) ops[a].after[y] sm j;rw[C _ v om];rfl
     rw[l]at d;simp at d
  |some a=>
   have d:a∈h:=List.mem_of_getElem? u;rw[<-q,aiT]at d;have⟨c,e⟩:=d;have c:a<ops.size:=by simpa using c
   rw[p a c,aiz c]at e;simp only[Option.map_some,Option.getD_some,ais,aiI]at e;have⟨o,n⟩:=e;rw[Array.all_eq_true]at n;have i:∀x,(listed.setIfInBounds a A').getD x B'=(listed.getD x B'||x==a):=by
    intro x;by_cases t:x=a
    ·subst t;simp[aiE,aix (by omega:x<listed.size)]
    simp[aiE,aiR (λF=>t F.symm),t]
   have m:(aiG ops.size).countP (λx=> !(listed.setIfInBounds a A').getD x B')<=b:=by
    have:=VG (p:=λx=> !listed.getD x B') (q:=λx=> !(listed.setIfInBounds a A').getD x B') (aiG ops.size) (λx _ k=>by
     rw[i]at k;simp at k⊢;exact k.1) a (by simpa using c) (by simp[o]) (by rw[i];simp)
    omega
   obtain⟨G,X,r⟩:=g (D/j' h) (listed.setIfInBounds a A') (a::f) (by simp[w]) m;refine⟨a::G,by simp only;rw[X];simp,.cons (aiz c) o (λF z j=>?_) ?_⟩
   ·obtain⟨y,k,rfl⟩:=List.getElem_of_mem z;have:=n y (by simpa using k);simp only[Array.getElem_toList]at j⊢;rw[j]at this;simpa using this
   have s:(λx=>(listed.setIfInBounds a A').getD x B')=(λx=>listed.getD x B'||x==a):=funext i;rw[<-s];exact r
def L6{ops:Array M'}(h:CG ops)(d:Nat):Lin ops (λ_=>B') (Region.schedule A' ops d):=by
 have c:Region.schedule A' ops d=Region.linearise .any ops d:=by simp[Region.schedule]
 rw[c];obtain⟨j,i,b⟩:=aeB h ops.size d (aiU ops.size B') [] sm (by
  refine Nat.le_trans (List.countP_le_length) sm)
 have:Region.linearise .any ops d=j:=by simpa [Region.linearise]using i
 rw[this];have a:(λf=>(aiU ops.size B').getD f B')=(λ_=>B'):=by
  funext f;by_cases e:f<ops.size
  ·simp[aiE,e]
  simp[aiE,e]
 rw[<-a];exact b
structure nn (ops:Array M') (bs:List Nat) (m:Nat) (order:List Nat):Prop where
 back:CG ops
 bits:∀(i:Nat) (o:M'),ops[i]?=q' o->∀j,mm bs i j=A'->∃e∈o.after.toList,Region.binds .any e=A'/\(e.on=j∨mm bs e.on j=A')
 mle:m<=ops.size
 all:∀i,i<m->i∈order
 lt:∀i,i∈order->i<m
 nodup:order.Nodup
 later:∀pre e post,order=pre++e::post->jT ops.toList e=A'->∀i∈post,mm bs i e=A'
 reads:∀(j:Nat) (oj:M') (t:Tmp),ops[j]?=q' oj->hY oj.op=B'->oj.dst=q' t->∀(i:Nat) (oi:M'),ops[i]?=q' oi->t∈sf ops.toList oi->mm bs i j=A'
 tail:∀(i:Nat) (o:M'),m<=i->ops[i]?=q' o->Od o.op=A'/\o.guard=u'/\∀j,j<m->mm bs i j=A'
theorem L7{bs:n_ Nat}:∀(e:n_ Edge) (s:Nat),aiL (e.foldl (λs a=>match Region.binds .any a with|true=>Nat.lor (Nat.lor s (2^a.on)) (match nth bs a.on with|some b=>b|none=>0)|false=>s) s) g=A'->
  aiL s g=A'∨∃a∈e,Region.binds .any a=A'/\(a.on=g∨mm bs a.on g=A'):=by
 intro e;induction e with
 |nil=>intro s c;exact .inl c
 |cons a e i=>
  intro s c;simp only[List.foldl_cons]at c;rcases i _ c with c|⟨k,f,d,j⟩
  ·cases d:Region.binds .any a with
   |false=>rw[d]at c;exact .inl c
   |true=>
    rw[d]at c;simp only at c;have h:((s|||2^a.on)|||(match nth bs a.on with|some b=>b|none=>0)).testBit g=A':=c;rw[Nat.testBit_or,Nat.testBit_or,aiy,aiy]at h;all_goals grind [mm]
  exact .inr ⟨k,by simp[f],d,j⟩
theorem L8{ops:n_ M'}{bs:n_ Nat}:∀{d:n_ Nat},EO ops bs d=A'->∀b c a,d=b++c::a->jT ops c=A'->∀f∈a,mm bs f c=A':=by
 intro d;induction d with
 |nil=>intro _ b c a e;simp at e
 |cons m d h=>
  intro e b c a i j f k;simp only[EO,ais,aiy,aiI,aiH]at e;cases b with
  |nil=>
   all_goals grind
  |cons l b=>
   grind
theorem any_beq:A.any (aiN g)=A'↔g∈A:=by
 all_goals grind [List.any_eq_true,aiu,aiW]
def FN:∀{m:Nat} {b:n_ Nat},(∀a,a<m->a∈b)->j' b=m->b.Nodup:=by
 intro m b t w;have:∀(k:Nat) (b:n_ Nat),j' b<=k->(∀a,a<k->a∈b)->b.Nodup:=by
  intro k;induction k with
  |zero=>intro b p _;cases b with|nil=>simp|cons _ _=>simp at p
  |succ k v=>
   intro b p n;have d:=n k om;have s:j' (b.erase k)<=k:=by rw[aiV d];omega
   have r:=v (b.erase k) s (λa j=>by
    rw[aiP om];exact n a om)
   have i:k ∉ b.erase k:=by
    intro o;have l:∀a,a<k+1->a∈b.erase k:=by
     intro a j;by_cases t:a=k
     ·subst t;exact o
     rw[aiP t];exact n a j
    have:∀(f:Nat) (c:n_ Nat),(∀a,a<f->a∈c)->f<=j' c:=by
     intro f;induction f with
     |zero=>intro c _;omega
     |succ f q=>
      intro c h;have:=q (c.erase f) (λa j=>by rw[aiP om];exact h a om);rw[aiV (h f om)]at this;have u:0<j' c:=List.length_pos_of_mem (h f om);omega
    have:=this (k+1) _ l;omega
   have e:=List.perm_cons_erase d;exact e.nodup_iff.2 (List.nodup_cons.2 ⟨i,r⟩)
 exact this m b om t
theorem OB{ops:Array M'}(h:LR ops.toList=A'):nn ops (vM ops.toList).bs (vM ops.toList).m (vM ops.toList).order:=by
 unfold LR at h;simp only[ais]at h;have⟨⟨⟨⟨⟨⟨⟨⟨w,s⟩,g⟩,v⟩,x⟩,z⟩,X⟩,p⟩,q⟩:=h;have a:∀(c:Nat) (t:M'),ops[c]?=q' t->nth ops.toList c=q' t/\c<j' ops.toList:=by
  all_goals grind [cx,Nat.lt_or_ge]
 rw[aiH]at w s v x;have l:∀c,c<(vM ops.toList).m->c∈(vM ops.toList).order:=λc k=>any_beq.1 (v c (by simpa using k));refine⟨λc t j K A u=>?_,λc t j o f=>?_,by simpa using aiM g,l,λc k=>aiK.mp (x c k),FN l (aiu z),L8 X,λo L M f r G c I k P=>?_,λc t B j=>?_⟩
 ·have⟨e,d⟩:=a _ _ j;have:=w c (by simpa using d);rw[e]at this;simp only[aiH]at this;have:=this K A
  simp_all
 ·have⟨e,d⟩:=a _ _ j;have:=s c (by simpa using d);rw[e]at this;split at this
  ·rename_i J E y D;cases y;have F:=aiu this;unfold mm at f;rw[D]at f;simp only at f;rw[F]at f;rcases L7 _ _ f with h|h
   ·simp at h
   exact h
  cases this
 ·have⟨e,d⟩:=a _ _ f;have⟨f1,f2⟩:=a _ _ k;unfold TW at p;rw[aiH]at p;have:=p o (by simpa using d);rw[e]at this;simp only[r,Bool.false_or,G,aiH]at this;have:=this c (by simpa using f2);rw[f1]at this;simp only[aiy,aiI]at this;rcases this with h|h
  ·rw[any_beq.2 P]at h;cases h
  exact h
 have⟨e,d⟩:=a _ _ j;unfold Fv at q;rw[aiH]at q;have:=q (c-(vM ops.toList).m) (by simp at d⊢;omega);rw[show(vM ops.toList).m+(c-(vM ops.toList).m)=c from om,e]at this;simp only[ais]at this;refine⟨this.2.1,by simpa using this.2.2,λo C=>?_⟩;have m:=this.1;unfold mm;split at m
 ·rename_i b u;try rw[u]
  show aiL b o=A';unfold subset at m;have n:=aiu m;have i:((2^(vM ops.toList).m-1)&&&b).testBit o=(2^(vM ops.toList).m-1).testBit o:=d_ (λH=>aiL H o) n;rw[Nat.testBit_and,Nat.testBit_two_pow_sub_one]at i;simpa [C]using i
 cases m
variable{S:Nat->Prop}
section
variable{C:eN} {w0:G'} {N0:Nat} {G:Nat->Prop} {ρ:Ren} {st:St} {w:G'} {ev:H'->Option C'} {oA:H'->C'}
def adQ(ρ:Ren)(w:G')(f:Nat)(v:C')(c:gJ)(e:Result Next):Prop:=
 ∃b co d,e=.ok (.value b) {w with heap:=w.heap.push co}/\d.b=w.heap.size/\∀a:Ren,ρ.le a->a f=q' d->Ax a d c (q' co)/\dA a v b
def CH{c:n_ C'}(e m:Nat)(b:F')(f:du ρ c B.toList){v v':C'}(h:R=.ok (.value v') {w with heap:=w.heap.push (.cells B b)}) 
  (l:∀a:Ren,ρ.le a->a m=q' ⟨w.heap.size,0,e,B.size⟩->dA a v v'):adQ ρ w m v (.cells c e m 0) R:=by
 refine⟨v',.cells B b,⟨w.heap.size,0,e,B.size⟩,h,Z,λa d j=>⟨⟨B,b,0,0,Z,Z,Z,?_,λp r i=>?_,λp _ o=>om⟩,l a d j⟩⟩
 ·have:=f.len;simp at this;simp;omega
 have⟨n,q,k⟩:=f.get i;exact⟨n,by simpa using q,k.mono d⟩
theorem VH(hT:qb C)(E:qo ρ ev oA)(B:hZ z.op=A'){v:C'}{s:St}{D:gJ}(b:kZ C ev z ⟨.nil,g,.nil⟩=q' (.val v s))(h:s.get g=q' D):
  adQ ρ w g v D ((execOp oA z).run C.P w):=by
 have e:∀q:gJ,((⟨.nil,g,.nil⟩:St).new q).get g=q' q:=λq=>by rw[dT,X' rfl]
 unfold kZ at b;split at b
 case h_4 H a=>
  unfold zq at b;split at b
  ·rename_i o ht;obtain⟨rfl,rfl⟩:=dS b;rw[e]at h;cases h;have⟨u,hz,j⟩:=nU hT ht w;have m:du ρ o.zero u.cells.toList:=by rw[j.cells];exact kR (hT.Dx _ _ ht) ρ
   refine CH (v':=.pointer (q' ⟨w.heap.size,0,u'⟩)) o.size g H m ?_ (λk _ i=>.ptr (l:=⟨w.heap.size,0,o.size,u.cells.size⟩) i);simp only[execOp,a,Instr.alloc];rw[Sem.run_bind];simp only[Sem.run_bind,hz,Result.andThen_ok,newVar,jD,Sem.run_pure]
  cases b
 case h_5 H q a=>
  split at b
  ·rename_i T N;unfold Rn at b;split at b
   ·obtain⟨rfl,rfl⟩:=dS b;rw[e]at h;cases h;have M:=E _ _ N;refine CH (v':=.pointer (q' ⟨w.heap.size,0,u'⟩)) _ g H M.cells ?_ (λk _ i=>.ptr (l:=⟨w.heap.size,0,_,(oA q).cells.size⟩) i);simp only[execOp,a,Instr.box];rw[Sem.run_bind];simp only[Sem.run_bind,Result.andThen_ok,newVar,jD,Sem.run_pure]
   cases b
  cases b
 case h_7 H n ps a=>
  split at b
  ·rename_i l L;unfold lp at b;split at b
   ·rename_i o ht;split at b
    ·rename_i r hd;split at b
     ·rename_i te hte;split at b
      ·rename_i c d K;split at b
       ·rename_i Q;obtain⟨rfl,rfl⟩:=dS b;rw[e]at h;cases h;simp only[ais]at d;have J:=aiK.mp d.1.1;have R:=aiM d.1.2;have F:=aiu d.2;have⟨u,hz,j⟩:=nU hT hte w;have X:u.cells.size=te.size:=by rw[<-F,<-j.cells];simp
        have G:du ρ (yH te.zero n) ((Array.range (n*te.size)).map (u.cells[· %u.cells.size]!)).toList:=by
         rw[<-X,Fx,j.cells];exact kR (x5 (hT.Dx _ _ hte) n) ρ
        have A:DA ρ l (ps.map fun(I,q)=>(I,oA q)).toList:=by rw[aiB];exact wx E L
        have⟨x,hr1,p⟩:=AA (place':=λI=>q' (I*te.size,te.size)) (λI q O=>O) A G K;have t:x.size=n*te.size:=by
         have S:=p.len
         grind [Array.length_toList,AB,LW]
        refine CH (v':=.slice (q' ⟨w.heap.size,0,u'⟩) n n) te.size g r p ?_ (λk _ i=>.slice (l:=⟨w.heap.size,0,te.size,x.size⟩) i (aiS _) (by simp[t]));simp only[execOp,a];rw[Sem.run_bind];exact IS
       cases b
      cases b
     cases b
    cases b
   cases b
  cases b
 case h_16 H a=>
  obtain⟨rfl,rfl⟩:=dS b;rw[e]at h;cases h;refine⟨.map (q' w.heap.size),.map #[] 0,⟨w.heap.size,0,0,0⟩,?_,Z,λk _ i=>⟨⟨#[],Z,tv⟩,.map (l:=⟨w.heap.size,0,0,0⟩) i⟩⟩;simp only[execOp,a];rfl
 all_goals (exfalso;first|(rename_i a;rw[a]at B;simp[hZ]at B;done)|cases b)
def VI(c:hZ z.op=A'){v:C'}{s:St}(a:kZ C ev z st=q' (.val v s)):∃d,s=st.new d/\wi st d:=by
 unfold kZ at a;split at a
 case h_4 e b=>
  unfold zq at a;split at a
  ·obtain⟨rfl,rfl⟩:=dS a;exact⟨_,rfl,rfl⟩
  cases a
 case h_5 e f b=>
  split at a
  ·unfold Rn at a;split at a
   ·obtain⟨rfl,rfl⟩:=dS a;exact⟨_,rfl,rfl⟩
   cases a
  cases a
 case h_7 e h ps b=>
  split at a
  ·unfold lp at a;repeat' split at a
   all_goals first|cases a;done|(obtain⟨rfl,rfl⟩:=dS a;exact⟨_,rfl,rfl⟩)
  cases a
 case h_16 e b=>obtain⟨rfl,rfl⟩:=dS a;exact⟨_,rfl,tv⟩
 all_goals (exfalso;first|(rename_i b;rw[b]at c;simp[hZ]at c;done)|cases a)
def dQ.YQ(c:dQ w0 N0 G ρ st w){k:gJ}(q:wi st k):dQ w0 N0 (λh=>G h∨h=st.n) ρ (st.new k) w:=by
 have n:=c.jr;have a:∀b e,ρ b=q' e->b≠st.n:=λb e d p=>by subst p;rw[n]at d;cases d
 refine⟨c.wf.new q,c.below,c.K1,?_,λb e d=>?_,λb e u d s=>?_,λb t e x u v j f r l i o=>?_⟩
 ·rintro h (m|rfl)
  ·exact⟨(c.Q8 h m).1,aiA (c.Q8 h m).2⟩
  exact⟨n,Nat.lt_succ_self _⟩
 ·have:=c.Af b e d;exact⟨aiA this.1,this.2⟩
 ·rw[dT,W' (a _ _ d)]at s;exact c.obj _ _ _ d s
 rw[dT,W' (a _ _ j)]at l;rw[dT,W' (a _ _ f)]at i;exact c.sep _ _ _ _ _ _ j f r l i o
theorem dQ.abW(h:dQ w0 N0 G ρ st w){n:gJ}{co:Obj}{l:Loc}(P:ρ g=u')(X:g<st.n)(z:st.get g=q' n)(E:l.b=w.heap.size)(H:Ax (ρ.add g l) l n (q' co))(D:∀j,S j->G j/\j≠g):
  dQ w0 N0 S (ρ.add g l) st {w with heap:=w.heap.push co}:=by
 have r:=fb (l:=l) P;have d:∀k,k<w.heap.size->(w.heap.push co)[k]?=w.heap[k]?:=λk t=>by rw[Array.getElem?_push,W' om]
 have x:=h.K1;refine⟨h.wf,h.below.trans ⟨Z,Z,Z,by simp,λk t=>d k om⟩,by show N0<=(w.heap.push co).size;simp;omega,λj C=>?_,λb f e=>?_,λb f y e p=>?_,λb s I J B A c a F v u i=>?_⟩
 ·have⟨c,a⟩:=D j C;have:=h.Q8 j c
  grind [eT]
 ·show b<st.n/\N0<=f.b/\f.b<(w.heap.push co).size;by_cases m:b=g
  ·grind [dG]
  rw[eT _ _ m]at e;have:=h.Af _ _ e;simp;omega
 ·show Ax _ f y (w.heap.push co)[f.b]?;by_cases m:b=g
  ·grind [dG]
  rw[eT _ _ m]at e;rw[d _ (h.Af _ _ e).2.2];exact(h.obj _ _ _ e p).mono r
 by_cases q:b=g
 ·subst q;rw[dG]at c;cases c;rw[eT _ _ (λm=>i m.symm)]at a;have:=(h.Af _ _ a).2.2;omega
 rw[eT _ _ q]at c;by_cases o:s=g
 ·subst o;rw[dG]at a;cases a;have:=(h.Af _ _ c).2.2;omega
 rw[eT _ _ o]at a;exact h.sep _ _ _ _ _ _ c a F v u i
def dQ.y7(a:dQ w0 N0 G ρ st w)(c:∀b,S b->G b):dQ w0 N0 S ρ st w:=
 ⟨a.wf,a.below,a.K1,λb d=>a.Q8 b (c b d),a.Af,a.obj,a.sep⟩
def rq(tm:Tr C')(a:n_ Nat):Tr C':=a.foldl (λtm b=>tm.put b u') tm
theorem kS:∀(a:n_ Nat) (tm:Tr C') (b:Nat),(rq tm a).get b=if b∈a then u' else tm.get b:=by
 intro a;induction a with
 |nil=>intro tm b;simp[rq]
 |cons c a d=>
  intro tm b;have:rq tm (c::a)=rq (tm.put c u') a:=rfl;all_goals grind [kt]
def qq(fr:Fr)(a:n_ Nat):Fr:=⟨rq fr.tm a,fr.df⟩
def RG{a:n_ H'}{d:Tmp}(c:Operand.tmp d∈a):d∈tmpsOf a:=by
 induction a with
 |nil=>simp at c
 |cons e a b=>
  rcases ait.1 c with rfl|h2
  ·simp[tmpsOf]
  cases e<;>simp[tmpsOf,b h2]
def CI{fr:Fr}{ops:n_ M'}(c:∀a∈sf ops z,a ∉ A):∀b∈z.op.operands,nR fr b=nR (qq fr A) b:=by
 intro b e;cases b with
 |tmp a=>
  have d:a∈sf ops z:=aiD.2 (.inl (RG (by simpa using e)));show fr.tm.get a=(rq fr.tm A).get a;rw[kS,W' (c a d)]
 |_=>rfl
def Aq{fr:Fr}{ops:n_ M'}(c:∀j∈sf ops z,j ∉ A):jd ops fr z=jd ops (qq fr A) z:=by
 unfold jd;split
 ·rfl
 rename_i l e h;split
 ·rfl
 rename_i k d;split
 ·rfl
 rename_i b a;have f:b∈sf ops z:=aiD.2 (.inr (by simp[h,d,a]));have i:(qq fr A).tm.get b=fr.tm.get b:=by
  show(rq fr.tm A).get b=_;rw[kS,W' (c b f)]
 rw[i]
end
theorem AI{C:eN}{ev:H'->Option C'}{st s:St}{v:C'}(b:hY z.op=B')(d:hZ z.op=B')(h:kZ C ev z st=q' (.val v s))(r:s.n=st.n):s=st:=by
 have key:∀{t:C'} {l:St},val t l=q' (.val v s)->l=st∨l.n=st.n+1->s=st:=by
  all_goals grind [dS]
 unfold kZ at h;split at h
 case h_28 c a=>
  rw[a]at b;split at h
  ·cases h
  split at h
  ·rename_i p i;have⟨f,j,e⟩:=c;simp only at i;subst i;unfold ll at h;split at h<;>first|(simp[hY]at b;done)|skip
   ·unfold CC at h;exact Co
   ·exact Co
   ·exact Co
   cases h
  ·rename_i w i;exfalso;have⟨f,j,e⟩:=c;simp only at i;subst i;simp[hY]at b
  cases h
 case h_29 c a=>rw[a]at b;simp[hY]at b
 case h_30 n a=>rw[a]at b;simp[hY]at b
 case h_2 n a=>rw[a]at b;simp[hY]at b
 case h_9 m u n a=>rw[a]at b;simp[hY]at b
 case h_24 m o k q a=>rw[a]at b;simp[hY]at b
 case h_25 m o k q a=>rw[a]at b;simp[hY]at b
 case h_4 m a=>rw[a]at d;simp[hZ]at d
 case h_5 m n a=>rw[a]at d;simp[hZ]at d
 case h_7 m x ps a=>rw[a]at d;simp[hZ]at d
 case h_16 m a=>rw[a]at d;simp[hZ]at d
 case h_31=>cases h
 all_goals
  first
  |unfold zn at h
  |unfold At at h
  |unfold oX at h
  |unfold jY at h
  |unfold iS at h
  |unfold kp at h
  |unfold qc at h
  |unfold gW at h
  |unfold zs at h
  |unfold iT at h
  |unfold we at h
  |unfold sc at h
  |unfold ki at h
  |unfold rh at h
  |skip
  repeat' split at h
  all_goals first|cases h;done|exact key h (.inl rfl)|exact key h (.inr rfl)
def y8(ops:Array M')(a:Nat):Option Tmp:=(ops[a]?).bind (·.dst)
def hD(ops:Array M')(D:Nat->Bool)(a:n_ Nat):n_ Nat:=(a.filter λb=> !D b).filterMap (y8 ops)
theorem pN{ops:Array M'}{D:Nat->Bool}:g∈hD ops D A↔∃a∈A,D a=B'/\y8 ops a=q' g:=by
 all_goals grind [hD,aiT.2]
def FO(G:Nat->Prop)(D:Nat->Bool)(a:n_ uC):Nat->Prop:=λc=>G c∨∃d v b,uC.obj d v c b∈a/\D d=B'
variable{K:Ex×Fr×eM×St}
section
variable{C:eN} {w0:G'} {N0:Nat} {G:Nat->Prop} {fc:FC} {b:FB} {rc:Rec} {ops:Array M'} {bs:n_ Nat} {m:Nat} {order:n_ Nat}
structure Down (ops:Array M') (D:Nat->Bool):Prop where
 Af:∀i,D i=A'->i<ops.size
 closed:∀i o,D i=A'->ops[i]?=q' o->∀e∈o.after.toList,Region.binds .any e=A'->D e.on=A'
def Down.bits{D:Nat->Bool}(k:Down ops D)(f:nn ops bs m order):∀a i,D a=A'->mm bs a i=A'->D i=A':=by
 intro a;induction a using Nat.strongRecOn with
 |_ a l=>
  intro i e n;have h:=k.Af a e;have c:ops[a]?=q' ops[a]:=aiz h;obtain⟨j,d,b,h1|h1⟩:=f.bits a _ c i n
  ·rw[<-h1];exact k.closed a _ e c j d b
  exact l j.on (f.back a _ c j d b) i (k.closed a _ e c j d b) h1
def Down.ready{D:Nat->Bool}(i:Down ops D)(d:nn ops bs m order)(f:ops[g]?=q' z)(e:∀c∈z.after.toList,Region.binds .any c=A'->D c.on=A')(h:mm bs g Q=A'):D Q=A':=by
 obtain⟨c,b,a,h1|h1⟩:=d.bits g _ f Q h
 ·rw[<-h1];exact e c b a
 exact i.bits d c.on Q (e c b a) h1
theorem Down.add{D:Nat->Bool}(h:Down ops D)(i:ops[g]?=q' z)(j:∀e∈z.after.toList,Region.binds .any e=A'->D e.on=A'):Down ops (λx=>D x||x==g):=by
 refine⟨λx a=>?_,λx f a c e b d=>?_⟩
 ·simp only[aiy,beq_iff_eq]at a;rcases a with a|rfl
  ·exact h.Af x a
  all_goals grind [Nat.lt_or_ge]
 simp only[aiy,beq_iff_eq]at a⊢;rcases a with a|rfl
 ·exact .inl (h.closed x f a c e b d)
 grind
structure Inv (w0:G') (N0:Nat) (G:Nat->Prop) (ops:Array M') (bs:List Nat) (m:Nat) (fc:FC) (b:FB) (D:Nat->Bool) (pre:List Nat) (bb:Nat) (OC:List uC) (fr:Fr) (ps:eM) (st:St) (ρ:Ren) (w:G') (tm:Array C') (df:List J') (cs:List K'):Prop where
 down:Down ops D
 sub:∀i,D i=A'->i<m->i∈pre
 VJ:∀i∈pre,jT ops.toList i=A'->D i=A'
 cover:∀i∈pre,jT ops.toList i=B'->∃c∈OC,c.idx=i
 YR:∀j,aiL bb j=A'->∃e,D e=A'/\mm bs e j=A'
 RH:∀i v N ob,uC.obj i v N ob∈OC->D i=B'->N<st.n
 OD:∀i v N ob i' v' ob',uC.obj i v N ob∈OC->uC.obj i' v' N ob'∈OC->D i=B'->D i'=B'->i=i'
 aeC:∀c∈OC,jT ops.toList c.idx=B'/\c.idx∈pre
 eK:∀c∈OC,∀d,y8 ops c.idx=q' d->d<fc.nt
 VL:∀i v N ob,uC.obj i v N ob∈OC->¬G N
 world:dQ w0 N0 (FO G D OC) ρ st w
 frame:o7 ρ fc (qq fr (hD ops D pre)) b tm df
 fJ:wy ρ fc.Hv ps cs
theorem RI{fr a:Fr}{v:C'}(d:kr g fr N v=q' a):a.df=fr.df/\(∀b,N≠q' b->a.tm.get b=fr.tm.get b)/\∀c,N=q' c->c<g:=by
 unfold kr at d;all_goals grind [dx,aiK.mp]
def o7.sub{ρ:Ren}{fr fr':Fr}{tm:Array C'}{df:n_ J'}(a:o7 ρ fc fr b tm df)(c:fr'.df=fr.df)(e:∀f v,fr'.tm.get f=q' v->fr.tm.get f=q' v):o7 ρ fc fr' b tm df:=
 ⟨a.fn,a.round,a.kind,⟨a.tm.1,λh v d=>a.tm.2 h v (e h v d)⟩,by rw[c];exact a.df⟩
theorem advance(ao:nn ops bs m order){D:Nat->Bool}{ps:eM}{ρ:Ren}{w:G'}{tm:Array C'}{df:n_ J'}{cs:n_ K'}:
  ∀(l e:n_ Nat) (a:n_ uC) (fr:Fr) (st:St),order=e++l->gg C rc fc ops.toList bs l g a fr ps st=q' K->Inv w0 N0 G ops bs m fc b D e g a fr ps st ρ w tm df cs->
  ∃J o z ab ac,order=J++o/\gg C rc fc ops.toList bs o g z ab ps ac=q' K/\Inv w0 N0 G ops bs m fc b D J g z ab ps ac ρ w tm df cs/\(o=[]∨∃i aj,o=i::aj/\jT ops.toList i=A'):=by
 intro l;induction l with
 |nil=>intro e a fr st M y d;exact⟨e,[],a,fr,st,M,y,d,.inl rfl⟩
 |cons s aj ai=>
  intro e a fr st M y d;cases E:jT ops.toList s with
  |true=>exact⟨e,s::aj,a,fr,st,M,y,d,.inr ⟨s,aj,rfl,E⟩⟩
  |false=>
   have N:order=(e++[s])++aj:=by rw[M];simp
   have Y:s ∉ e:=by
    have:=ao.nodup
    grind [aiQ]
   have am:s<m:=ao.lt s (by rw[M];simp);have aC:D s=B':=by
    cases h:D s with
    |false=>rfl
    |true=>exact Y' (d.sub s h am) Y
   rw[gg]at y;split at y
   ·rename_i aw aH aa aG;rw[cx,aiw]at aa;have ae:hY aw.op=B':=by
     grind [jT,cx]
    have ah:y8 ops s=aw.dst:=by unfold y8;rw[aa];rfl
    simp only[ae]at y;have t:∀(c:uC) (f:Fr) (u:St) (v:C'),c.idx=s->kr fc.nt fr aw.dst v=q' f->
      (∀j k F p,uC.obj j k F p∈c::a->D j=B'->F<u.n)->(∀B U F P A V x,uC.obj B U F P∈c::a->uC.obj A V F x∈c::a->D B=B'->D A=B'->B=A)->
      (∀j k F p,uC.obj j k F p∈c::a->¬G F)->dQ w0 N0 (FO G D (c::a)) ρ u w->Inv w0 N0 G ops bs m fc b D (e++[s]) g (c::a) f ps u ρ w tm df cs:=by
     intro c f u v av q W S T L;have⟨al,aB,an⟩:=RI q;refine⟨d.down,λag r aq=>by simp[d.sub ag r aq],λag r R=>?_,λag r R=>?_,d.YR,W,S,λH n=>?_,λH n aE h=>?_,T,L,?_,d.fJ⟩
     ·rcases aiD.1 r with r|r
      ·exact d.VJ ag r R
      grind
     ·rcases aiD.1 r with r|r
      ·have⟨H,n,ay⟩:=d.cover ag r R;exact⟨H,by simp[n],ay⟩
      grind
     ·rcases ait.1 n with rfl|n
      ·rw[av];exact⟨E,by simp⟩
      have⟨h1,h2⟩:=d.aeC H n;exact⟨h1,by simp[h2]⟩
     ·rcases ait.1 n with rfl|n
      ·rw[av,ah]at h;exact an aE h
      exact d.eK H n aE h
     refine d.frame.sub (fr':=qq f (hD ops D (e++[s]))) al λaA aF az=>?_;have I:(rq f.tm (hD ops D (e++[s]))).get aA=q' aF:=az;rw[kS]at I;split at I
     ·cases I
     rename_i ak;show(rq fr.tm (hD ops D e)).get aA=q' aF;have h1:aA ∉ hD ops D e:=λhm=>ak (by
      rw[pN]at hm⊢;have⟨ag,r,h,R⟩:=hm;exact⟨ag,by simp[r],h,R⟩)
     grind [pN,kS]
    split at y
    ·cases y
    ·rename_i ap;split at y
     ·rename_i f q;exact ai (e++[s]) (.skip s::a) f st N y (t (.skip s) f st mM Z q
       (λj k F p hm h=>by rcases ait.1 hm with i|hm;cases i;exact d.RH _ _ _ _ hm h)
       (λB U F P A V x h1 h2 d1 d2=>by
        rcases ait.1 h1 with i|h1
        ·cases i
        rcases ait.1 h2 with i|h2
        ·cases i
        exact d.OD _ _ _ _ _ _ _ h1 h2 d1 d2)
       (λj k F p hm=>by rcases ait.1 hm with i|hm;cases i;exact d.VL _ _ _ _ hm)
       (d.world.y7 (by
        rintro aD (Q|⟨j,k,p,hm,h⟩)
        ·exact .inl Q
        rcases ait.1 hm with i|hm
        ·cases i
        exact .inr ⟨j,k,p,hm,h⟩)))
     cases y
    rename_i ap;split at y
    ·rename_i v u ar;split at y
     ·cases y
     rename_i f q;split at y
     ·rename_i O;obtain⟨X,rfl,af⟩:=VI O ar;split at y
      ·rename_i p ad;rw[dT,X' rfl]at ad;cases ad;exact ai (e++[s]) (.obj s v st.n X::a) f (st.new X) N y (t (.obj s v st.n X) f (st.new X) v Z q
        (λj k F x hm h=>by
         show F<st.n+1;rcases ait.1 hm with i|hm
         ·cases i;omega
         have:=d.RH _ _ _ _ hm h;omega)
        (λB U F P A V x h1 h2 d1 d2=>by
         rcases ait.1 h1 with i|h1
         ·cases i;rcases ait.1 h2 with i|h2
          ·cases i;rfl
          have:=d.RH _ _ _ _ h2 d2;omega
         rcases ait.1 h2 with i|h2
         ·cases i;have:=d.RH _ _ _ _ h1 d1;omega
         exact d.OD _ _ _ _ _ _ _ h1 h2 d1 d2)
        (λj k F p hm=>by
         rcases ait.1 hm with i|hm
         ·cases i;exact λax=>Y' (d.world.Q8 _ (.inl ax)).2 (Nat.lt_irrefl _)
         exact d.VL _ _ _ _ hm)
        ((d.world.YQ af).y7 (by
         rintro aD (Q|⟨j,k,x,hm,h⟩)
         ·exact .inl (.inl Q)
         rcases ait.1 hm with i|hm
         ·cases i;exact .inr rfl
         exact .inl (.inr ⟨j,k,x,hm,h⟩))))
      cases y
     rename_i O;split at y
     ·rename_i au;have:=AI ae O ar (aiu au);subst this;exact ai (e++[s]) (.val s v::a) f u N y (t (.val s v) f u v Z q
       (λj k F p hm h=>by rcases ait.1 hm with i|hm;cases i;exact d.RH _ _ _ _ hm h)
       (λB U F P A V x h1 h2 d1 d2=>by
        rcases ait.1 h1 with i|h1
        ·cases i
        rcases ait.1 h2 with i|h2
        ·cases i
        exact d.OD _ _ _ _ _ _ _ h1 h2 d1 d2)
       (λj k F p hm=>by rcases ait.1 hm with i|hm;cases i;exact d.VL _ _ _ _ hm)
       (d.world.y7 (by
        rintro aD (Q|⟨j,k,p,hm,h⟩)
        ·exact .inl Q
        rcases ait.1 hm with i|hm
        ·cases i
        exact .inr ⟨j,k,p,hm,h⟩)))
     cases y
    cases y
   cases y
end
theorem L9{C:eN}{ops:n_ M'}{fr:Fr}{st:St}{b:Nat}:∀{a:n_ uC},qG C ops fr st b a=A'->∀c∈a,aiL b c.idx=A'∨rj C ops fr st c=A':=by
 intro a;induction a with
 |nil=>intro _ c d;simp at d
 |cons h a e=>
  intro f c d;simp only[qG,ais,aiy]at f;all_goals grind [ait.1]
def YS(i:n_ Nat):Ee->Ee->Prop
 |.next e a c,.next f b d=>b=a/\d=c/\f.df=e.df/\∀h,h ∉ i->f.tm.get h=e.tm.get h
 |.fJ k _ a c,.fJ j _ b d=>j=k/\b=a/\d=c
 |_,_=>False
theorem xY{fr fr2:Fr}{v:C'}{ps:eM}{st:St}(a:fr2.df=fr.df)(f:∀e,e ∉ A->fr2.tm.get e=fr.tm.get e)(b:Ee.go g fr N v ps st=q' T):
  ∃c,Ee.go g fr2 N v ps st=q' c/\YS A T c:=by
 unfold Ee.go kr at b⊢;cases N with
 |none=>cases b;exact⟨_,rfl,rfl,rfl,a,f⟩
 |some i=>
  simp only at b⊢;cases d:Nat.blt i g with
  |false=>rw[d]at b;cases b
  |true=>
   rw[d]at b;cases b;refine⟨_,Z,Z,Z,a,λe h=>?_⟩
   grind [dx]
def DF{C:eN}{rc:Rec}{fc:FC}{ops:n_ M'}{fr:Fr}{ps:eM}{st:St}(b:∀a∈sf ops z,a ∉ A)(h:mP C rc fc ops z fr ps st=q' T):
  ∃c,mP C rc fc ops z (qq fr A) ps st=q' c/\YS A T c:=by
 have hdf:(qq fr A).df=fr.df:=rfl;have htm:∀a,a ∉ A->(qq fr A).tm.get a=fr.tm.get a:=λa d=>by
  show(rq fr.tm A).get a=_;rw[kS,W' d]
 unfold mP at h⊢;rw[<-Aq b];split at h
 ·cases h
 ·exact xY hdf htm h
 unfold pM at h⊢;rw[<-CF z (CI b)];split at h
 ·cases h
 ·exact xY hdf htm h
 ·cases h;exact⟨_,rfl,rfl,rfl,rfl⟩
 ·exact KQ
 ·exact KQ
 ·split at h
  ·cases h
  split at h
  ·exact xY hdf htm h
  exact xY hdf htm h
 rename_i e f;split at h
 ·cases h
 exact xY (fr:={fr with df:=e::fr.df}) (fr2:={qq fr A with df:=e::fr.df}) Z htm h
section
variable{C:eN} {w0:G'} {N0:Nat} {G:Nat->Prop} {fc:FC} {b:FB} {rc:Rec} {ops:Array M'} {bs:n_ Nat} {m:Nat} {order:n_ Nat}
def ET(C:eN)(w0:G')(N0:Nat)(G:Nat->Prop)(ops:Array M')(m:Nat)(ρ:Ren)(fc:FC)(n:Q')(b:FB)(k:n_ Item)(ps:eM)(cs:n_ K')(j:Ex×Fr×eM×St):Prop:=
 match j with
 |(.norm,d,c,dy)=>∃e p a l i f h,Lin ops e p/\Down ops e/\(∀o,o<m->e o=A')/\ρ.le a/\dQ w0 N0 G a dy l/\o7 a fc d b i f/\rn ps c cs h/\
   Steps C.P n (lone (eZ b i f (.inRegion ops p::k)) h l)/\(∀o,m<=o->e o=B')
 |(q,d,c,dy)=>jt C w0 N0 G ρ fc n b k ps cs q d c dy
def ET.of_steps{ρ c:Ren}{e f:Q'}{k:n_ Item}{ps a:eM}{cs d:n_ K'}(hle:ρ.le c)(Ya:rn ps a cs d)(Fj:Steps C.P e f)(h:ET C w0 N0 G ops m c fc f b k a d K):ET C w0 N0 G ops m ρ fc e b k ps cs K:=by
 have⟨s,r,q,dy⟩:=K;cases s with
 |norm=>
  have⟨p,n,dM,w',Yd,HB,cs',l,j,o,h4,h5,h6,h7,h8,i⟩:=h;exact⟨p,n,dM,w',Yd,HB,cs',l,j,o,hle.trans h4,h5,h6,Ya.trans h7,Fj.trans h8,i⟩
 |_=>
  exact JV
theorem VN{fr:Fr}{a:Tmp}{v:C'}(b:Dz fr (q' a) v=A'):fr.tm.get a=q' v:=by
 all_goals grind [Dz,wz]
def CJ{b:Option Bool}(a:isSome b L=A'):b=q' L:=by
 unfold isSome at a;split at a
 ·rfl
 ·rfl
 cases a
theorem zy{ρ h:Ren}{D:Nat->Bool}{fr:Fr}{tm:Array C'}{df:n_ J'}{v v':C'}(u:ops[g]?=q' z)(F:o7 ρ fc (qq fr (hD ops D A)) b tm df)(y:ρ.le h)(q:Dz fr z.dst v=A')(P:dA h v v') 
  (s:∀C,z.dst=q' C->C<fc.nt):o7 h fc (qq fr (hD ops (λx=>D x||x==g) A)) b (oB tm z.dst v') df:=by
 have a:=F.mono y;refine⟨a.fn,a.round,a.kind,⟨?_,λk w G=>?_⟩,a.df⟩
 ·have:=a.tm.1;unfold oB;split<;>simp[this]
 have c:(rq fr.tm (hD ops (λx=>D x||x==g) A)).get k=q' w:=G;rw[kS]at c;split at c
 ·cases c
 rename_i m;cases e:z.dst with
 |none=>
  have f:k ∉ hD ops D A:=λj=>m (by
   rw[pN]at j⊢;have⟨r,o,n,d⟩:=j;refine⟨r,o,?_,d⟩;have i:r≠g:=λp=>by subst p;unfold y8 at d;rw[u]at d;simp[e]at d
   simp[n,i])
  obtain⟨t,p,X⟩:=a.tm.2 k w (by show(rq fr.tm (hD ops D A)).get k=q' w;rw[kS,W' f];exact c);exact⟨t,by simpa [oB]using p,X⟩
 |some C=>
  rw[e]at q;by_cases l:k=C
  ·subst l;rw[VN q]at c;cases c;refine⟨v',?_,P⟩;simp only[oB];rw[aix (by rw[a.tm.1];exact s k e)]
  have f:k ∉ hD ops D A:=λj=>m (by
   rw[pN]at j⊢;have⟨r,o,n,d⟩:=j;refine⟨r,o,?_,d⟩;have i:r≠g:=λp=>by subst p;unfold y8 at d;rw[u]at d;simp[e]at d;exact l d.symm
   simp[n,i])
  obtain⟨t,p,X⟩:=a.tm.2 k w (by show(rq fr.tm (hD ops D A)).get k=q' w;rw[kS,W' f];exact c)
  grind [oB]
def Inv.reads{hp:nn ops bs m order}{D:Nat->Bool}{e:n_ Nat}{p:Nat}{f:n_ uC}{fr:Fr}{ps:eM}{st:St}{ρ:Ren}{w:G'}{tm:Array C'}{df:n_ J'}{cs:n_ K'}(k:Inv w0 N0 G ops bs m fc b D e p f fr ps st ρ w tm df cs) 
  {v:Nat} {n:M'} (j:ops[v]?=q' n) (s:∀x∈n.after.toList,Region.binds .any x=A'->D x.on=A'):∀u∈sf ops.toList n,u ∉ hD ops D e:=by
 intro u q l;rw[pN]at l;have⟨o,t,d,a⟩:=l;unfold y8 at a;cases c:ops[o]? with
 |none=>rw[c]at a;simp at a
 |some h=>
  rw[c]at a;simp at a;have i:hY h.op=B':=by
   cases r:hY h.op with
   |false=>rfl
   |true=>
    have:jT ops.toList o=A':=by unfold jT;rw[cx,aiw,c];exact r
    rw[k.VJ o t this]at d;cases d
  have:=hp.reads o h u c i a v n j q;rw[k.down.ready hp j s this]at d;cases d
theorem Ma(a:ops[g]?=q' z):jT ops.toList g=hY z.op:=by
 grind [jT,cx]
def RJ(af:qb C)(ax:L3 C)(ay:qp C)(hp:nn ops bs m order){D:Nat->Bool}{e:n_ uC}{fr:Fr}{ps:eM}{st:St}{ρ:Ren}{w:G'}{tm:Array C'}{df:n_ J'}{cs:n_ K'}(hi:Inv w0 N0 G ops bs m fc b D A g e fr ps st ρ w tm df cs) 
  (aA:qG C ops.toList fr st g e=A') (o:ops[Q]?=q' z) (F:D Q=B') (am:∀V∈z.after.toList,Region.binds .any V=A'->D V.on=A') (B:Q∈A) (aE:n_ Nat) (k:n_ Item):
  ∃d q p,ρ.le d/\Steps C.P (lone (eZ b tm df (.inRegion ops (Q::aE)::k)) cs w) (lone (eZ b p df (.inRegion ops aE::k)) cs q)/\Inv w0 N0 G ops bs m fc b (λx=>D x||x==Q) A g e fr ps st d q p df cs:=by
 have Y:jT ops.toList Q=B':=by
  cases au:jT ops.toList Q with
  |false=>rfl
  |true=>rw[hi.VJ Q B au]at F;cases F
 have an:hY z.op=B':=by rw[<-Ma o];exact Y
 have W:=hi.down.add o am;have⟨c,J,f⟩:=hi.cover Q B Y;have Rk:=Inv.reads (hp:=hp) hi o am;have n:rj C ops.toList fr st c=A':=by
  rcases L9 aA c J with h|h
  ·exfalso;rw[f]at h;have⟨V,R,K⟩:=hi.YR Q h;rw[hi.down.bits hp V Q R K]at F;cases F
  exact h
 have P:nth ops.toList Q=q' z:=by rw[cx,aiw];exact o
 have E:∀ad,z.dst=q' ad->ad<fc.nt:=by
  intro ad i;exact hi.eK c J ad (by rw[f];unfold y8;rw[o];exact i)
 have u:∀(d:Ren) (q:G') (p:Array C'),dQ w0 N0 (FO G (λx=>D x||x==Q) e) d st q->o7 d fc (qq fr (hD ops (λx=>D x||x==Q) A)) b p df->ρ.le d->
   Inv w0 N0 G ops bs m fc b (λx=>D x||x==Q) A g e fr ps st d q p df cs:=by
  intro d q p R K ao;refine⟨W,λN y ak=>?_,λN y aj=>?_,hi.cover,λN y=>?_,λaL L aa ab U i=>hi.RH _ _ _ _ U (by simp only[aiv]at i;exact i.1),λaK aI aa aF aH aB ae R K d1 d2=>hi.OD _ _ _ _ _ _ _ R K (by simp only[aiv]at d1;exact d1.1) (by simp only[aiv]at d2;exact d2.1),hi.aeC,hi.eK,hi.VL,R,K,hi.fJ.mono ao⟩
  ·simp only[aiy,beq_iff_eq]at y;rcases y with y|rfl
   ·exact hi.sub N y ak
   exact B
  ·simp[hi.VJ N y aj]
  have⟨V,aD,aw⟩:=hi.YR N y;exact⟨V,by simp[aD],aw⟩
 have j:∀x,FO G (λx=>D x||x==Q) e x->FO G D e x:=by
  rintro x (H|⟨N,v,ab,U,i⟩)
  ·exact .inl H
  simp only[aiv]at i;exact .inr ⟨N,v,ab,U,i.1⟩
 cases c with
 |val N v=>
  simp only[uC.idx]at f;subst f;simp only[rj,P,ais]at n;have⟨⟨⟨hwa,T⟩,S⟩,a⟩:=n;have hwa:=CJ hwa;split at a
  ·rename_i ap s I;simp only[ais]at a;have:=wz _ _ a.1;subst this;have aC:=AI an (by simpa using T) I (aiu a.2);subst aC;have M:kZ C (nR (qq fr (hD ops D A))) z s=q' (.val ap s):=by rw[<-CF z (CI Rk)];exact I
   have⟨d,L,q,X,l⟩:=sj af ax ay hi.world (rp hi.frame.tm) M;refine⟨d,q,oB tm z.dst L,l.le,.one (AD o ?_ (.inr (ju I (by intro ad V;cases V))) X),?_⟩
   ·exact Cq
   exact u d q _ (l.world.y7 j) (zy o hi.frame l.le S l.value E) l.le
  cases a
 |skip N=>
  simp only[uC.idx]at f;subst f;simp only[rj,P,ais]at n;have hwa:=CJ n.1;refine⟨ρ,w,oB tm z.dst undef,Ren.le_refl _,.one (DE o ?_),?_⟩
  ·exact Cq
  exact u ρ w _ (hi.world.y7 j) (zy (v':=undef) o hi.frame (Ren.le_refl _) n.2 (.tuple .nil) E) (Ren.le_refl _)
 |obj N v aa ab=>
  simp only[uC.idx]at f;subst f;simp only[rj,P,ais]at n;have⟨⟨⟨⟨hwa,T⟩,S⟩,O⟩,a⟩:=n;have hwa:=CJ hwa;split at O
  ·rename_i aJ ar;have:=OA O;subst this;split at a
   ·rename_i ap s I;simp only[ais]at a;have:=wz _ _ a.1;subst this;have r:=a.2;split at r
    ·rename_i av ah;have:=OA r;subst this;have M:kZ C (nR (qq fr (hD ops D A))) z ⟨.nil,aa,.nil⟩=q' (.val ap s):=by rw[<-CF z (CI Rk)];exact I
     have⟨L,co,aq,X,az,ac⟩:=VH (w:=w) af (rp hi.frame.tm) T M ah;have al:ρ aa=u':=(hi.world.Q8 aa (.inr ⟨N,ap,av,J,F⟩)).1;have t:=fb (l:=aq) al;have⟨ai,ag⟩:=ac (ρ.add aa aq) t (dG _ _ _);refine⟨ρ.add aa aq,{w with heap:=w.heap.push co},oB tm z.dst L,t,.one (AD o ?_ (.inr (ju I (by intro ad V;cases V))) (.inl X)),?_⟩
     ·exact Cq
     refine u _ _ _ (hi.world.abW al (hi.RH _ _ _ _ J F) ar az ai λx H=>⟨j x H,?_⟩) (zy o hi.frame t S ag E) t;rintro rfl;rcases H with H|⟨aG,aB,ae,U,i⟩
     ·exact hi.VL _ _ _ _ J H
     simp only[aiv]at i;have:=hi.OD _ _ _ _ _ _ _ J U F i.1;subst this;simp at i
    cases r
   cases a
  cases O
theorem HL:∀(b:n_ M') (tm:Tr C') (c:Nat) (d:C'),(b.foldl (λtm a=>match a.dst with|some f=>(match hY a.op with|true=>tm|false=>tm.put f u')|none=>tm) tm).get c=q' d->
  tm.get c=q' d/\∀a∈b,hY a.op=B'->a.dst≠q' c:=by
 intro b;induction b with
 |nil=>intro tm c d h;exact⟨h,λa e=>by simp at e⟩
 |cons j b i=>
  all_goals grind [kt,ait.1]
def RL(ax:qb C)(az:L3 C)(aA:qp C)(bk:∀G,y5 C w0 N0 G rc)(hp:nn ops bs m order)(k:n_ Item){D:Nat->Bool}(N:Lin ops D A):
  ∀(g f:n_ Nat) (aa:Nat) (n:n_ uC) (fr:Fr) (ps:eM) (st:St) (ρ:Ren) (w:G') (tm:Array C') (df:n_ J') (cs:n_ K') (z:Ex×Fr×eM×St),
  order=g++f->gg C rc fc ops.toList bs f aa n fr ps st=q' z->(∀h,m<=h->D h=B')->Inv w0 N0 G ops bs m fc b D g aa n fr ps st ρ w tm df cs->
  ET C w0 N0 G ops m ρ fc (lone (eZ b tm df (.inRegion ops A::k)) cs w) b k ps cs z:=by
 induction N with
 |@nil D af=>
  intro g f aa n fr ps st ρ w tm df cs z O aB V aE;have⟨zm,e,r,ae,ag,v7,d,a,P⟩:=advance hp f g n fr st O aB aE;have Jl:∀h,h<m->D h=A':=λh aL=>af h (Nat.lt_of_lt_of_le aL hp.mle);have L:e=[]:=by
   rcases P with aB|⟨X,ai,rfl,Q⟩
   ·exact aB
   exfalso;have H:X<m:=hp.lt X (by rw[v7];simp);have be:=a.sub X (Jl X H) H;have:=hp.nodup;rw[v7,aiQ]at this;exact this.2.2 X be X sm Z
  subst L;simp only[gg]at d;split at d
  ·cases d;have E:hD ops D zm=[]:=by
    exact Jk
   have F:=a.frame;rw[E]at F;exact⟨D,[],ρ,w,tm,df,cs,.nil af,a.down,Jl,Ren.le_refl _,a.world.y7 (λx M=>.inl M),F,.refl _ _,.refl _ _,V⟩
  cases d
 |@cons D h A bn s an Q N aN=>
  intro g f aa n fr ps st ρ w tm df cs z O aB V aE;have⟨zm,e,r,ae,ag,v7,d,a,P⟩:=advance hp f g n fr st O aB aE;have ah:∀x,x∈zm->x∈e->False:=by
   intro x R d;have:=hp.nodup;rw[v7,aiQ]at this;exact this.2.2 x R x d Z
  by_cases aW:h<m
  ·have aC:h∈zm++e:=by rw[<-v7];exact hp.all h aW
   have ac:∀j,m<=j->(D j||j==h)=B':=by
    intro j hj;have:j≠h:=om;simp[V j hj,this]
   rcases aiD.1 aC with aG|Y
   ·
    have B:qG C ops.toList ae ag aa r=A':=by
     rcases P with rfl|⟨X,ai,rfl,q⟩
     ·simp only[gg]at d;split at d
      ·rename_i B;exact B
      cases d
     rw[gg]at d;split at d
     ·rename_i bu aY W bA;rw[cx,aiw]at W;have:hY bu.op=A':=by rw[<-Ma W];exact q
      simp only[this]at d;split at d
      ·cases d
      rename_i B;exact B
     cases d
    have⟨aP,bt,bg,y,J,bj⟩:=RJ ax az aA hp a B s an Q aG A k;exact .of_steps y (.refl _ _) J (aN zm e aa r ae ps ag aP bt bg df cs z v7 d ac bj)
   
   have aO:∃ai,e=h::ai/\jT ops.toList h=A':=by
    rcases P with rfl|⟨X,ai,rfl,q⟩
    ·simp at Y
    rcases ait.1 Y with rfl|aR
    ·exact⟨ai,Z,q⟩
    exfalso;have bo:=hp.later zm X ai v7 q h aR;have aS:=a.down.ready hp s Q bo;exact ah X (a.sub X aS (hp.lt X (by rw[v7];simp))) sm
   obtain⟨ai,rfl,q⟩:=aO;rw[gg]at d;have aw:nth ops.toList h=q' bn:=by rw[cx,aiw];exact s
   have W:hY bn.op=A':=by rw[<-Ma s];exact q
   split at d
   ·rename_i bC aY am aU;rw[aw]at am;cases am;simp only[W]at d;split at d
    ·cases d
    rename_i B;have I:=Inv.reads (hp:=hp) a s Q;split at d
    ·cases d
    ·rename_i v o aK aQ ak;cases d;have F:=FM ak;subst F;have⟨aH,ad,i⟩:=DF I ak;cases aH with
     |next _ _ _=>exact i.elim
     |fJ bq bh aq al=>
      obtain⟨rfl,rfl,rfl⟩:=i;obtain⟨rfl,ab,w1,aF,y,S,br,J⟩:=qI ax az aA (bk _) ad a.world a.frame a.fJ A k s;refine⟨ab,w1,tm,df,cs,y,S.y7 (λx M=>.inl M),?_,.refl _ _,_,aF,br,J⟩;refine(a.frame.mono y).sub (fr':={o with tm:=q6 ops.toList o.tm}) Z λt bm aD=>?_;have⟨R,av⟩:=HL ops.toList o.tm t bm aD;show(rq o.tm (hD ops D zm)).get t=q' bm;rw[kS,W' ?_]
      ·exact R
      intro u;rw[pN]at u;have⟨j,hj,ap,p⟩:=u;unfold y8 at p;cases T:ops[j]? with
      |none=>rw[T]at p;simp at p
      |some aI=>
       rw[T]at p;simp at p;have aJ:hY aI.op=B':=by
        cases hq:hY aI.op with
        |false=>rfl
        |true=>rw[a.VJ j hj (by rw[Ma T];exact hq)]at ap;cases ap
       exact av aI (by have:=Array.mem_of_getElem? T;simpa using this) aJ p
    rename_i o aK aQ ak;have⟨aH,ad,i⟩:=DF I ak;cases aH with
    |fJ _ _ _ _=>exact i.elim
    |next bh aq al=>
     obtain⟨rfl,rfl,au,ay⟩:=i;have⟨ab,w1,ba,bf,aT,y,S,bl,ao,J⟩:=qI ax az aA (bk _) ad a.world a.frame a.fJ A k s;have aj:order=(zm++[h])++ai:=by rw[v7];simp
     have bc:h ∉ zm:=λu=>ah h u sm;refine .of_steps y ao J (aN (zm++[h]) ai aY r o aq al ab w1 ba bf aT z aj d ac ?_);refine⟨a.down.add s Q,λj hj aM=>?_,λj hj K=>?_,λj hj K=>?_,λj hj=>?_,λbv aF bz ar u hd=>?_,λbE bB bz bx bD bq bw R d d1 d2=>a.OD _ _ _ _ _ _ _ R d (by simp only[aiv]at d1;exact d1.1) (by simp only[aiv]at d2;exact d2.1),λc bp=>?_,a.eK,a.VL,?_,?_,(a.fJ.mono y).step ao⟩
     ·simp only[aiy,beq_iff_eq]at hj;rcases hj with hj|rfl
      ·simp[a.sub j hj aM]
      simp
     ·rcases aiD.1 hj with hj|hj
      ·simp[a.VJ j hj K]
      simp at hj;simp[hj]
     ·rcases aiD.1 hj with hj|hj
      ·exact a.cover j hj K
      simp at hj;subst hj;rw[q]at K;cases K
     ·refine⟨h,by simp,?_⟩;unfold mm;rw[aU];exact hj
     ·simp only[aiv]at hd;exact(S.Q8 bz (.inr ⟨bv,aF,ar,u,hd.1⟩)).2
     ·have⟨R,av⟩:=a.aeC c bp;exact⟨R,by simp[av]⟩
     ·refine S.y7 ?_;rintro x (M|⟨j,v,ar,u,hd⟩)
      ·exact .inl M
      simp only[aiv]at hd;exact .inr ⟨j,v,ar,u,hd.1⟩
     refine bl.sub (fr':=qq o (hD ops (λx=>D x||x==h) (zm++[h]))) au.symm λt bm aD=>?_;have U:(rq o.tm (hD ops (λx=>D x||x==h) (zm++[h]))).get t=q' bm:=aD;rw[kS]at U;split at U
     ·cases U
     rename_i aV;rw[ay t ?_]
     ·exact U
     intro u;refine aV ?_;rw[pN]at u⊢;have⟨j,hj,hd,p⟩:=u;have aX:j≠h:=λX=>bc (X▸hj);exact⟨j,by simp[hj],by simp[hd,aX],p⟩
   cases d
  
  have Jl:∀j,j<m->D j=A':=by
   intro j hj;exact a.down.ready hp s Q ((hp.tail h bn om s).2.2 j hj)
  have L:e=[]:=by
   rcases P with aB|⟨X,ai,rfl,q⟩
   ·exact aB
   exfalso;have H:X<m:=hp.lt X (by rw[v7];simp);exact ah X (a.sub X (Jl X H) H) sm
  subst L;simp only[gg]at d;split at d
  ·cases d;have E:hD ops D zm=[]:=by
    exact Jk
   have F:=a.frame;rw[E]at F;exact⟨D,h::A,ρ,w,tm,df,cs,.cons s an Q N,a.down,Jl,Ren.le_refl _,a.world.y7 (λx M=>.inl M),F,.refl _ _,.refl _ _,V⟩
  cases d
end
structure St.Alike (s t:St):Prop where
 n:s.n=t.n
 get:∀b,s.get b=t.get b
 fm:∀f,s.fm.get f=t.fm.get f
def dQ.alike{w0:G'}{N0:Nat}{G:Nat->Prop}{ρ:Ren}{u v:St}{w:G'}(h:dQ w0 N0 G ρ u w)(d:St.Alike u v):dQ w0 N0 G ρ v w:=by
 refine⟨⟨λb j a=>?_,λb c x n y a=>?_,λn l a=>?_⟩,h.below,h.K1,λb e=>?_,λb k e=>?_,λb k j e a=>?_,λb m k t j r i f q o p s=>?_⟩
 ·rw[<-d.n];exact h.wf.lt b j (by rw[d.get];exact a)
 ·obtain⟨i,f⟩:=h.wf.et b c x n y (by rw[d.get];exact a);refine⟨by rw[<-d.n];exact i,?_⟩;unfold wh at f⊢;rw[<-d.fm];exact f
 ·rw[<-d.n];exact h.wf.TX n l (by rw[d.fm];exact a)
 ·rw[<-d.n];exact h.Q8 b e
 ·rw[<-d.n];exact h.Af b k e
 ·exact h.obj b k j e (by rw[d.get];exact a)
 exact h.sep b m k t j r i f q (by rw[d.get];exact o) (by rw[d.get];exact p) s
theorem RM{b lo hi b2:Nat}{X:gJ}:∀(c:n_ Nat) (d a:Tr gJ),b2 ∉ c->(∀e,a.get e=if e=b2 then q' X else d.get e)->
  (gm b lo hi c a).2=(gm b lo hi c d).2/\∀e,(gm b lo hi c a).1.get e=if e=b2 then q' X else(gm b lo hi c d).1.get e:=by
 intro c;induction c with
 |nil=>intro d a _ k;exact⟨rfl,k⟩
 |cons m c n=>
  intro d a f k;have h:m≠b2:=λl=>f (by simp[l]);have i:b2 ∉ c:=λl=>f (by simp[l]);have j:a.get m=d.get m:=by rw[k,W' h]
  unfold gm;cases o:aiN m b with
  |true=>
   grind
  |false=>
   simp only;rw[j];split
   ·split
    ·refine n _ _ i λe=>?_;rw[dx,dx,k];all_goals grind
    grind
   grind
def jI(st:St)(b:Nat)(c:gJ)(a:Nat):(st.put b c).get a=if a=b then q' c else st.get a:=dx _ _ _ _
def OE{st:St}{f b lo hi b2:Nat}{X:gJ}(i:∀c,st.fm.get f=q' c->b2 ∉ c):
  St.Alike ((st.put b2 X).kill f b lo hi) ((st.kill f b lo hi).put b2 X):=by
 cases a:st.fm.get f with
 |none=>
  rw[iw a,iw (st:=st.put b2 X) a];exact⟨Z,λ_=>Z,λ_=>Z⟩
 |some c=>
  rw[js a,js (st:=st.put b2 X) a];have⟨h,e⟩:=RM (b:=b) (lo:=lo) (hi:=hi) (b2:=b2) (X:=X) c st.hp (st.put b2 X).hp (i c a) (λd=>dx _ _ _ _);refine⟨Z,λd=>?_,λj=>?_⟩
  ·show(gm b lo hi c (st.put b2 X).hp).1.get d=((gm b lo hi c st.hp).1.set b2 X).get d;rw[dx,e]
  show(st.fm.set f _).get j=(st.fm.set f _).get j;rw[dx,dx,h]
theorem St.Alike.put{c d:St}(a:St.Alike c d)(b:Nat)(e:gJ):St.Alike (c.put b e) (d.put b e):=
 ⟨a.n,λf=>by rw[jI,jI,a.get],a.fm⟩
def St.Alike.trans{d e c:St}(b:St.Alike d e)(k:St.Alike e c):St.Alike d c:=⟨b.n.trans k.n,λa=>(b.get a).trans (k.get a),λa=>(b.fm a).trans (k.fm a)⟩
theorem Mb{b lo hi:Nat}:∀(c:n_ Nat) (d a:Tr gJ),(∀e,a.get e=d.get e)->
  (gm b lo hi c a).2=(gm b lo hi c d).2/\∀e,(gm b lo hi c a).1.get e=(gm b lo hi c d).1.get e:=by
 intro c;induction c with
 |nil=>intro d a f;exact⟨rfl,f⟩
 |cons m c i=>
  intro d a f;unfold gm;cases h:aiN m b with
  |true=>
   grind
  |false=>
   simp only;rw[f m];split
   ·split
    ·grind [dx]
    grind
   grind
def St.Alike.kill{s h:St}(e:St.Alike s h)(f b c d:Nat):St.Alike (s.kill f b c d) (h.kill f b c d):=by
 cases a:h.fm.get f with
 |none=>rw[iw a,iw (by rw[e.fm];exact a)];exact e
 |some i=>
  rw[js a,js (st:=s) (by rw[e.fm];exact a)];have⟨k,j⟩:=Mb (b:=b) (lo:=c) (hi:=d) i h.hp s.hp e.get;refine⟨e.n,j,λl=>?_⟩;show(s.fm.set f _).get l=(h.fm.set f _).get l;rw[dx,dx,k,e.fm]
theorem apart_spec{st:St}(j:apart st g Q=A'):∃h e f1 c b f f2 d,st.get g=q' (.cells h e f1 c)/\st.get Q=q' (.cells b f f2 d)/\g≠Q/\f1≠f2/\st.fm.get f2=u'/\∀a,st.fm.get f1=q' a->Q ∉ a:=by
 unfold apart at j;split at j
 ·rename_i h e f1 c b f f2 d o l;simp only[ais,aiI]at j;have⟨⟨⟨m,k⟩,i⟩,q⟩:=j;refine⟨h,e,f1,c,b,f,f2,d,o,l,aiC m,aiC k,?_,λa p n=>?_⟩
  ·split at i
   ·assumption
   cases i
  grind [aiI,List.any_eq_false,aiW]
 cases j
theorem Ei{st G x s r:St}{a f:Nat}{l:n_ C'}(L:apart st g Q=A')(J:ic st g a E=q' G)(B:ic st Q f l=q' x) 
  (y:ic G Q f l=q' s) (p:ic x g a E=q' r):St.Alike r s:=by
 have⟨j,m,f1,c,k,i,f2,d,F,I,H,N,q,o⟩:=apart_spec L;obtain⟨v,A,P,X,e,_,_,rfl⟩:=mn J;rw[F]at e;cases e;obtain⟨C,u,z,w,h,_,_,rfl⟩:=mn B;rw[I]at h;cases h;have K:(st.put Q (.cells (eh k f l) i f2 d)).kill f2 Q (d+f) (d+f+j' l)=st.put Q (.cells (eh k f l) i f2 d):=iw q;rw[K]at p;obtain⟨v,A,P,X,e,_,_,rfl⟩:=mn p;rw[jI,W' H,F]at e;cases e;obtain⟨C,u,z,w,h,_,_,rfl⟩:=mn y;have D:((st.put g (.cells (eh j a E) m f1 c)).kill f1 g (c+a) (c+a+j' E)).get Q=q' (.cells k i f2 d):=by
  have:=(OE (st:=st.put g (.cells (eh j a E) m f1 c)) (f:=f1) (b:=g) (lo:=c+a) (hi:=c+a+j' E) (b2:=Q) (X:=.cells k i f2 d) o).get Q;rw[jI,X' rfl]at this;rw[<-this];have n:St.Alike (st.put g (.cells (eh j a E) m f1 c)) ((st.put g (.cells (eh j a E) m f1 c)).put Q (.cells k i f2 d)):=by
   refine⟨Z,λM=>?_,λ_=>Z⟩;rw[jI _ Q,jI];all_goals grind
  exact(n.kill _ _ _ _).get Q
 rw[D]at h;cases h;have t:((st.put g (.cells (eh j a E) m f1 c)).kill f1 g (c+a) (c+a+j' E)).fm.get f2=u':=by
  unfold St.kill;split
  ·exact q
  show(st.fm.set f1 _).get f2=u'
  grind [dx]
 rw[iw (st:=St.put _ _ _) t];have n:St.Alike ((st.put Q (.cells (eh k f l) i f2 d)).put g (.cells (eh j a E) m f1 c)) ((st.put g (.cells (eh j a E) m f1 c)).put Q (.cells (eh k f l) i f2 d)):=by
  refine⟨Z,λM=>?_,λ_=>Z⟩;rw[jI,jI,jI,jI];all_goals grind
 exact(n.kill _ _ _ _).trans (OE o)
section
variable{C:eN} {w0:G'} {N0:Nat} {G:Nat->Prop} {fc:FC} {b:FB} {rc:Rec} {ops:Array M'} {bs:n_ Nat} {m:Nat} {order:n_ Nat}
def abX(l:qb C)(o:L3 C)(h:qp C){ρ:Ren}{st dy:St}{w:G'}{fr:Fr}{tm:Array C'}{df:n_ J'}{cs:n_ K'}{k:n_ Item}{rest:n_ Nat}{v:C'}(j:ops[g]?=q' z)(n:z.guard=u') 
  (p:kZ C (nR fr) z st=q' (.val v dy)) (i:dQ w0 N0 G ρ st w) (m:pP ρ fc.nt fr.tm tm):
  ∃a d e,ρ.le a/\dQ w0 N0 G a dy e/\dA a v d/\Steps C.P (lone (eZ b tm df (.inRegion ops (g::rest)::k)) cs w) (lone (eZ b (oB tm z.dst d) df (.inRegion ops rest::k)) cs e):=by
 have⟨a,d,e,f,c⟩:=sj l o h i (rp m) p;refine⟨a,d,e,c.le,c.world,c.value,.one (AD j ?_ (.inr (ju p (by intro r q;cases q))) f)⟩;unfold Region.wanted;rw[n]
def pP.less{ρ:Ren}{b:Tr C'}{tm:Array C'}(e:pP ρ g I tm)(c:∀a v,b.get a=q' v->I.get a=q' v):pP ρ g b tm:=⟨e.1,λa v d=>e.2 a v (c a v d)⟩
theorem x8{c:F'}{a v:C'}{st dy:St}(b:mN C c (.pointer (q' ⟨g,Q,u'⟩)) a st=q' (.val v dy)):ic st g Q (cellsOf a)=q' dy:=by
 unfold mN at b;all_goals grind [dS]
def FP{s:F'}{c v:C'}{k:Nat}{st dy:St}(a:gW C s c k st=q' (.val v dy))(b:St):gW C s c k b=q' (.val v b):=by
 unfold gW at a⊢;split at a
 ·split at a
  ·split at a
   ·split at a
    ·obtain⟨rfl,rfl⟩:=dS a;rfl
    cases a
   cases a
  cases a
 cases a
def adR{df:n_ J'}{v:C'}(a:Q<g):kr g ⟨I,df⟩ (q' Q) v=q' ⟨I.set Q v,df⟩:=by
 unfold kr;simp only;rw[show Nat.blt Q g=A' by rw[aiK];exact a]
theorem RN{b:Option M'}{fr f0 ff:Fr}{st:St}(a:KZ C g Q b fr st=q' (f0,ff)):f0.df=fr.df/\ff.df=fr.df/\(∀k j,f0.tm.get k=q' j->fr.tm.get k=q' j)/\f0.tm.get Q=u'/\
  ((b=u'/\ff=f0)∨∃h c f,b=q' h/\h.dst=q' c/\Q≠c/\c<g/\f0.tm.get c=u'/\ff.tm=f0.tm.set c f/\∀s,kZ C (nR f0) h s=q' (.val f s)):=by
 unfold KZ at a;split at a
 ·cases a;exact⟨Z,Z,λk j=>by grind [kt],by grind [kt],.inl ⟨Z,Z⟩⟩
 rename_i h;split at a
 ·rename_i c r o q m l;split at a
  ·rename_i p i d e;split at a
   ·rename_i v s n;cases a;refine⟨Z,Z,λk j=>by grind [kt],by grind [kt],.inr ⟨h,c,v,Z,m,aiC i,aiK.mp d,by grind [kt],Z,λs=>?_⟩⟩;simp only[kZ,l,e];exact FP n s
   cases a
  cases a
 cases a
theorem FQ(bo:qb C)(br:L3 C)(bu:qp C)(Y:nn ops bs m order){R T:M'}{fo:Option M'}(N:ops.toList.drop m=z::R::(fo.toList++[T])){fr ag:Fr}{ps ae:eM}{st dy:St}(e:K0 C fc z R fo T fr ps st=q' (U,ag,ae,dy)) 
  {D:Nat->Bool} (ai:Lin ops D A) (B:Down ops D) (ap:∀r,r<m->D r=A') (K:∀r,m<=r->D r=B') (ar:mm bs (m+1) m=A') (aI:fo.isSome=A'->mm bs (m+3) (m+2)=A')
  {ρ:Ren} {w:G'} {tm:Array C'} {df:n_ J'} (cs:n_ K') (k:n_ Item) (t:dQ w0 N0 G ρ st w) (q:o7 ρ fc fr b tm df):
  U=.norm/\ae=ps/\∃a x d,ρ.le a/\dQ w0 N0 G a dy x/\o7 a fc ag b d df/\Steps C.P (lone (eZ b tm df (.inRegion ops A::k)) cs w) (lone (eZ b d df (.inRegion ops []::k)) cs x):=by
 unfold K0 at e;split at e
 ·rename_i aH t1 cc bY t2 bW cd aY aO aJ bn bk M;rw[aiv]at M;split at e
  ·rename_i f0 ff au L;have⟨bV,be,S,bK,ac⟩:=RN au;have L:=aiK.mp L;split at e
   ·rename_i v P am;split at e
    ·rename_i bm bt bg bD bq bC bJ bR bQ bM E;obtain rfl:=AI M.1 M.2 am (aiu E);split at e
     ·rename_i q1 O q2 bN aN aj aq;split at e
      ·rename_i ca l q3 bv q4 ah aX V aa;split at e
       ·rename_i Q;rw[ais]at Q;obtain rfl:=wz _ _ Q.1;obtain rfl:=AI M.1 M.2 aX (aiu Q.2);cases e;have aB:=Ei aN (x8 aj) (x8 aq) (x8 V) (x8 aa);refine⟨Z,Z,?_⟩;have bf:∀s,kZ C (nR ⟨f0.tm.set aH v,f0.df⟩) R s=mN C t1 (.pointer (q' ⟨bm,bt,u'⟩)) bg s:=by
         grind [kZ]
        have bG:∀s,kZ C (nR ff) T s=mN C t2 (.pointer (q' ⟨bD,bq,u'⟩)) bC s:=by
         grind [kZ]
        have H:∀aL,ops[m+aL]?=(z::R::(fo.toList++[T]))[aL]?:=λaL=>by rw[<-N,List.getElem?_drop,aiw]
        obtain⟨n,E⟩:∃n,n=m+2+j' fo.toList:=⟨_,rfl⟩;have bE:ops[m]?=q' z:=H 0;have aE:ops[m+1]?=q' R:=H 1;have aR:ops[n]?=q' T:=by rw[E,Nat.add_assoc,H];cases fo<;>rfl
        have ax:ops.size=n+1:=by
         have:=d_ j' N;simp at this;omega
        let bb:Bool->Bool->St:=λo f=>cond o (cond f dy O) (cond f l P)
        let bc:Bool->Bool->Tr C':=λU i=>cond U ((cond i ff.tm f0.tm).set aH v) (cond i ff.tm f0.tm)
        have aV:∀{D A},Lin ops D A->Down ops D->(∀r,r<m->D r=A')->∀{ρ w tm} (U o i f:Bool),D m=U->D (m+1)=o->(fo.isSome=A'->D (m+2)=i)->(fo=u'->i=A')->D n=f->
          dQ w0 N0 G ρ (bb o f) w->pP ρ fc.nt (bc U i) tm->
          ∃a x d,ρ.le a/\dQ w0 N0 G a dy x/\pP a fc.nt (ff.tm.set aH v) d/\Steps C.P (lone (eZ b tm df (.inRegion ops A::k)) cs w) (lone (eZ b d df (.inRegion ops []::k)) cs x):=by
         intro D A bz;induction bz with
         |nil F=>
          intro B _ ρ w tm U o i f X J q c I t h;obtain rfl:U=A':=X▸F m om;obtain rfl:o=A':=J▸F (m+1) om;obtain rfl:f=A':=I▸F n om;obtain rfl:i=A':=by cases fo with
           |none=>exact c rfl
           |some _=>exact q rfl▸F (m+2) (by simp at E;omega)
          exact⟨ρ,w,tm,Ren.le_refl _,t,h,.refl _ _⟩
         |@cons D r A ba p y al ce bi=>
          intro B aA ρ w tm U o i f X J q c I t h;have aM:m<=r:=by grind
          have bS:r<n+1:=ax▸(Array.getElem?_eq_some_iff.1 p).1;have W:∀{s s':St} {u:C'} {fr0:Fr} (U o i f:Bool),kZ C (nR fr0) ba s=q' (.val u s')->dQ w0 N0 G ρ s w->pP ρ fc.nt fr0.tm tm->(∀{j ao},ρ.le j->dA j u ao->pP j fc.nt (bc U i) (oB tm ba.dst ao))->
            (∀{j w1},dQ w0 N0 G j s' w1->dQ w0 N0 G j (bb o f) w1)->(D m||m==r)=U->(D (m+1)||m+1==r)=o->(fo.isSome=A'->(D (m+2)||m+2==r)=i)->(fo=u'->i=A')->(D n||n==r)=f->
            ∃a x d,ρ.le a/\dQ w0 N0 G a dy x/\pP a fc.nt (ff.tm.set aH v) d/\Steps C.P (lone (eZ b tm df (.inRegion ops (r::A)::k)) cs w) (lone (eZ b d df (.inRegion ops []::k)) cs x):=by
           intro s s' u fr0 U o i f am t h aP bH ap K bh bx bp;have⟨j,ao,w1,ab,az,aF,aK⟩:=abX (fc:=fc) (b:=b) (df:=df) (cs:=cs) (k:=k) (rest:=A) bo br bu p (Y.tail r ba aM p).2.1 am t h;obtain⟨aS,bI,aT,aW,av,aQ,aw⟩:=bi (B.add p al) (λaL bj=>by simp[aA aL bj]) U o i f ap K bh bx bp (bH az) (aP ab aF);exact⟨aS,bI,aT,ab.trans aW,av,aQ,aK.trans aw⟩
          have aG:m=r∨m+1=r∨n=r∨(fo.isSome=A'/\m+2=r):=by cases fo<;>simp at E⊢ <;>omega
          have bL:m+2<=n:=om;rcases aG with rfl|rfl|rfl|⟨ak,rfl⟩
          ·obtain rfl:=Option.some.inj (p.symm.trans bE);obtain rfl:U=B':=X.symm.trans y;have af:D (m+1)=B':=by
            cases e:D (m+1)with
            |false=>rfl
            |true=>rw[B.bits Y _ _ e ar]at y;cases y
           obtain rfl:o=B':=J.symm.trans af;exact W (s:=cond f l P) (s':=cond f l P) (fr0:=f0) A' B' i f (by cases f<;>assumption) t (h.less (by cases i<;>grind [dx])) (λg an=>by rw[aY];exact(jH (fr:=⟨cond i ff.tm f0.tm,fr.df⟩) (h.mono g) an (adR L)).1) id sm (by simp[af]) (λe=>by simp[q e]) c (by simp[I];omega)
          ·obtain rfl:=Option.some.inj (p.symm.trans aE);obtain rfl:o=B':=J.symm.trans y;obtain rfl:U=A':=X.symm.trans (B.ready Y p al ar);exact W (s:=cond f l P) (s':=cond f ah O) (u:=cond f q4 q1) (fr0:=⟨f0.tm.set aH v,f0.df⟩) A' A' i f (by cases f<;>exact(bf _).trans (by assumption)) t (h.less (by cases i<;>grind [dx])) (λg _=>by rw[aO];exact h.mono g) (λe=>by cases f;exact e;exact e.alike aB) (by simp[X]) sm (λe=>by simp[q e]) c (by simp[I];omega)
          ·obtain rfl:=Option.some.inj (p.symm.trans aR);obtain rfl:f=B':=I.symm.trans y;obtain rfl:i=A':=by cases fo with
            |none=>exact c rfl
            |some _=>exact(q rfl).symm.trans (B.ready Y p al (by subst E;exact aI rfl))
           exact W (s:=cond o O P) (s':=cond o dy l) (u:=cond o q3 q2) (fr0:=ff) U o A' A' (by cases o<;>exact(bG _).trans (by assumption)) t (h.less (by cases U<;>grind [dx])) (λg _=>by rw[aJ];exact h.mono g) id (by simp[X];omega) (by simp[J];omega) (λe=>by simp[q e]) c sm
          rcases ac with⟨rfl,_⟩|⟨cb,bX,bw,rfl,aC,bO,aU,bP,bU,bB⟩
          ·cases ak
          obtain rfl:ba=cb:=Option.some.inj (p.symm.trans (H 2));obtain rfl:i=B':=(q rfl).symm.trans y;exact W (s:=bb o f) (s':=bb o f) (fr0:=f0) U o A' f (bB _) t (h.less (by cases U<;>grind [dx])) (λg an=>by rw[aC];exact(jH (fr:=⟨bc U B',fr.df⟩) (h.mono g) an (adR aU)).1.less (by cases U<;>grind [dx])) id (by simp[X]) (by simp[J]) (λ_=>by simp) (λ_=>Z) (by simp[I];subst E;simp)
        have bA:pP ρ fc.nt (bc B' fo.isNone) tm:=q.tm.less (by
         rcases ac with⟨rfl,rfl⟩|⟨i,bX,bw,rfl,_⟩
         ·exact S
         exact S)
        obtain⟨a,x,d,ad,aD,ay,ak⟩:=aV ai B ap B' B' fo.isNone B' (K _ (aiS _)) (K _ om) (λe=>by rw[K _ om];cases fo<;>simp at e⊢) (λe=>by rw[e];rfl) (K _ om) t bA;have c:=q.mono ad;exact⟨a,x,d,ad,aD,⟨c.fn,c.round,c.kind,ay,by rw[be];exact c.df⟩,ak⟩
       cases e
      cases e
     cases e
    cases e
   cases e
  cases e
 cases e
end
section
variable{C:eN} {w0:G'} {N0:Nat} {G:Nat->Prop} {fc:FC} {b:FB} {rc:Rec}
def jt.of_steps{ρ c:Ren}{i j:Q'}{k:n_ Item}{ps a d:eM}{cs e:n_ K'}{f:Fr}{dy:St}(hle:ρ.le c)(Ya:rn ps a cs e)(Fj:Steps C.P i j)(h:jt C w0 N0 G c fc j b k a e U f d dy):jt C w0 N0 G ρ fc i b k ps cs U f d dy:=by
 exact JV
theorem Mc(o:qb C)(p:L3 C)(q:qp C)(g:C.P.follows .mixedOrders=A')(V:∀G,y5 C w0 N0 G rc){id:Nat}{ops:Array M'}(r:L=A'->LR ops.toList=A'){fr h:Fr}{ps f:eM}{st dy:St}(a:region C rc fc ops L fr ps st=q' (U,h,f,dy)) 
  {ρ:Ren} {w:G'} {tm:Array C'} {df:n_ J'} {cs:n_ K'} (k:n_ Item) (N:dQ w0 N0 G ρ st w) (O:o7 ρ fc fr b tm df) (Q:wy ρ fc.Hv ps cs):
  jt C w0 N0 G ρ fc (lone (eZ b tm df (.code (.region id ops L)::k)) cs w) b k ps cs U h f dy:=by
 cases L with
 |false=>
  have:=L5 (fc:=fc) (b:=b) o p q (V G) (ops:=ops) k ops.toList 0 fr ps st ρ w tm df cs U h f dy rfl a N O Q;exact .of_steps (Ren.le_refl _) (.refl _ _) (.one VE) this
 |true=>
  have l:=OB (r rfl);unfold region at a;simp only at a;have A:=L6 (ops:=ops) l.back (w.tape w.drawn (.order b.fn id));have TS:=FK (P:=C.P) (b:=b) (tm:=tm) (df:=df) (k:=k) (cs:=cs) (w:=w) (id:=id) (ops:=ops);rw[g]at TS;have z:Inv w0 N0 G ops (vM ops.toList).bs (vM ops.toList).m fc b (λ_=>B') [] 0 [] fr ps st ρ {w with drawn:=w.drawn+1} tm df cs:=by
   refine⟨⟨λt a=>by simp at a,λt ao a=>by simp at a⟩,λt a=>by simp at a,λt a=>by simp at a,λt a=>by simp at a,λap a=>by simp at a,λt v ak E a=>by simp at a,λt v ak E ax am al a=>by simp at a,λc a=>by simp at a,λc a=>by simp at a,λt v ak E a=>by simp at a,?_,?_,Q⟩
   ·refine(N.drewN _).y7 ?_;rintro U (ah|⟨ap,v,E,s,_⟩)
    ·exact ah
    simp at s
   have:qq fr (hD ops (λ_=>B') [])=fr:=rfl;rw[this];exact O
  cases m:gg C rc fc ops.toList (vM ops.toList).bs (vM ops.toList).order 0 [] fr ps st with
  |none=>rw[m]at a;cases a
  |some F=>
   have e:=RL (C:=C) (rc:=rc) o p q V l k A [] (vM ops.toList).order 0 [] fr ps st ρ _ tm df cs F rfl m (λ_ _=>rfl) z;rw[m]at a;have⟨u,y,X,D⟩:=F;have d:(∀af,u=af->af≠.norm->q' (u,y,X,D)=q' (U,h,f,dy)->jt C w0 N0 G ρ fc (lone (eZ b tm df (.inRegion ops (Region.schedule A' ops (w.tape w.drawn (.order b.fn id)))::k)) cs {w with drawn:=w.drawn+1}) b k ps cs u y X D->jt C w0 N0 G ρ fc (lone (eZ b tm df (.code (.region id ops A')::k)) cs w) b k ps cs U h f dy):=by
    intro af _ _ T aj;cases T;exact .of_steps (Ren.le_refl _) (.refl _ _) (.one TS) aj
   cases u with
   |exit t=>exact d _ rfl (by intro Y;cases Y) a e
   |ret=>exact d _ rfl (by intro Y;cases Y) a e
   |panic v=>exact d _ rfl (by intro Y;cases Y) a e
   |norm=>
    have⟨av,ac,K,ab,M,HB,cs',B,J,R,h4,H,I,h7,h8,S⟩:=e;simp only at a;split at a
    ·rename_i s;have s:=aiu s;simp only[Option.some.injEq,Prod.mk.injEq]at a;obtain⟨rfl,rfl,rfl,rfl⟩:=a;have ae:ac=[]:=by
      cases B with
      |nil _=>rfl
      |@cons _ t ay ao au aw T az=>
       grind
     subst ae;exact⟨K,ab,M,HB,cs',h4,H,I,h7,(Steps.head TS h8).trans (.one sY)⟩
    split at a
    ·rename_i an ag ad aa i n;split at a
     ·rename_i j;obtain⟨rfl,rfl,ρ2,w2,tm2,af1,hw2,hf2,hs2⟩:=FQ (C:=C) (fo:=u') o p q l i a B J R S (by unfold mm;rw[n];exact j) nofun cs' k H I;exact Ko
     cases a
    ·rename_i an ag ar ad aa i n;split at a
     ·rename_i aq j W;split at a
      ·rename_i x;obtain⟨rfl,rfl,ρ2,w2,tm2,af1,hw2,hf2,hs2⟩:=FQ (C:=C) (fo:=q' ar) o p q l i a B J R S (by unfold mm;rw[n];exact j) (λ_=>by unfold mm;rw[W];exact x) cs' k H I;exact Ko
      cases a
     cases a
    cases a
end
def OF:gJ->Bool
 |.cells .. =>B'
 |.dead=>B'
 |_=>A'
section
variable{w0:G'} {N0:Nat} {G:Nat->Prop} {ρ:Ren} {st:St} {w:G'}
theorem dQ.AJ(h:dQ w0 N0 G ρ st w){r:Nat}{l:Loc}{n o2:gJ}{co:Obj}(hl:ρ r=q' l)(hg:st.get r=q' n)(t:OF n=A')(q:OF o2=A')(x:Ax ρ l o2 (q' co)):
  dQ w0 N0 G ρ (st.put r o2) {w with heap:=w.heap.setIfInBounds l.b co}:=by
 have m:=h.Af _ _ hl;have LN:∀k,k≠l.b->(w.heap.setIfInBounds l.b co)[k]?=w.heap[k]?:=λk o=>aiR (λe=>o e.symm);have s:(w.heap.setIfInBounds l.b co)[l.b]?=q' co:=aix m.2.2;have Yq:∀p j f,ρ p=q' j->(st.put r o2).get p=q' f->j.b=l.b->p=r∨f=.dead:=by
  intro p j f u i B5;by_cases d:p=r
  ·exact .inl d
  rw[dH,W' d]at i;have:=h.sep _ _ _ _ _ _ hl u B5.symm hg i (λe=>d e.symm);cases n<;>cases f<;>first|exact .inr rfl|exact this.elim|cases t
 refine⟨⟨λb n hb=>?_,λb c e y C hb=>?_,h.wf.TX⟩,?_,by simpa using h.K1,h.Q8,λb a hb=>by have:=h.Af b a hb;exact⟨this.1,this.2.1,by simpa using this.2.2⟩,λb a n hb hgb=>?_,λb b' l1 v o1 o2 h1 h2 he g1 g2 EJ=>?_⟩
 ·exact KL
 ·rw[dH]at hb;split at hb
  ·cases hb;cases q
  exact h.wf.et _ _ _ _ _ hb
 ·exact h.below.trans ⟨Z,Z,Z,by simp,λk o=>LN k om⟩
 ·show Ax ρ a n (w.heap.setIfInBounds l.b co)[a.b]?;by_cases B5:a.b=l.b
  ·rcases Yq _ _ _ hb hgb B5 with rfl|rfl
   ·grind [dH]
   trivial
  exact KU
 exact IV
end
section
variable{P:Program} {b:FB} {tm:Array C'} {df:n_ J'} {k:n_ Item} {cs:n_ K'} {w:G'}
def Md{l:H'}{d:Array Tmp}{c f:T'}{mark:n_ J'}{w1:G'}{first a:Array C'}(m:Hw tm l=.func (.func H) first a) 
  (h:(Instr.enterLoop b.fn tm d c f b.round).run P w=.ok (g,mark) w1) (n:(callFunc H (first++ #[.func (.yield g) #[] #[]]++a)).run P w1=.ok (.enter H (first++ #[.func (.yield g) #[] #[]]++a)) w1):
  step P (lone (eZ b tm df (.code (.rangeFunc l d c f)::k)) cs w)=
   .next (lone (Frame.enter P H (first++ #[.func (.yield g) #[] #[]]++a) .normal) (eZ b tm (mark++df) (.inRangeFunc g::k)::cs) w1):=by
 refine step_lone_go ?_;have i:=FJ b tm (mark++df) (.inRangeFunc g::k);have e:(do let o<-resolve (eZ b tm (mark++df) (.inRangeFunc g::k)).eval {callee:=.value l,args:= #[.const (.func (.yield g) #[] #[])],argTypes:= #[]} 0;invoke o.target o.args:Sem Next).run P w1=.ok (.enter H (first++ #[.func (.yield g) #[] #[]]++a)) w1:=by
  rw[i];unfold resolve;have j:Array.map (Hw tm) #[.const (.func (.yield g) #[] #[])]= #[.func (.yield g) #[] #[]]:=by simp[Hw]
  simp only[m,j];exact n
 simp only[eZ]at e h⊢;simp[stepG,stepG.exec,Sem.runT_eq,h,stepG.apply,e]
def OG{a:Option T'}{w1:G'}(c:(Instr.endLoop g).run P w=.ok a w1):
  step P (lone (eZ b tm df (.endRangeFunc g::k)) cs w)=.next (lone (eZ b tm df ((a.map Item.code).toList++k)) cs w1):=
 step_lone_go (by simp[stepG,stepG.exec,eZ,Sem.runT_eq,c])
end
section
variable{C:eN} {w0:G'} {N0:Nat} {G:Nat->Prop} {fc:FC} {b:FB} {rc:Rec}
def CK{ρ:Ren}{st r:St}{w:G'}{fr q:Fr}{tm:Array C'}{df:n_ J'}{params:Array Tmp}{assign body:T'}{l:Nat}(t:codeOk assign=A'/\codeOk body=A')(u:rk fc fr params.toList assign body st=q' (l,q,r))(n:dQ w0 N0 G ρ st w)(h:o7 ρ fc fr b tm df):
  ∃k w1 m mark,ρ.le k/\dQ w0 N0 G k r w1/\k l=q' m/\(Instr.enterLoop b.fn tm params assign body b.round).run C.P w=.ok (m.b,mark) w1/\o7 k fc q b tm (mark++df):=by
 unfold rk at u;split at u
 ·rename_i I d;split at u
  ·rename_i B X;simp only[Option.some.injEq,Prod.mk.injEq]at u;obtain⟨rfl,rfl,rfl⟩:=u;have i:=h.round;rw[d]at i;have⟨j,g,D⟩:=i;have⟨H,P,A⟩:=n.obj _ _ _ g X;have e:=n.jr
   let m:Loc:=⟨w.heap.size,0,0,0⟩
   have a:=fb (l:=m) e;have⟨E,F,z⟩:=A.defers;refine⟨ρ.add st.n m,_,m,[],a,n.new (l:=m) (o:=.loop {state:=.ready,pending:=u',fn:=fc.fn,tm:=fr.tm,nt:=fc.nt,params:=params.toList,assign,body,defers:=B.defers}) (co:=.loop {state:=.ready,pending:=u',fn:=b.fn,tmps:=tm,params,assign,body,defers:=H.defers}) Z trivial ?_,dG _ _ _,?_,?_⟩
   ·exact⟨_,Z,Z,Z,h.fn,h.tm.mono a,Z,Z,Z,⟨E,a _ _ F,z⟩,t⟩
   ·rw[D];exact run_enterLoop_inner P _ _ _ _ _
   exact h.mono a
  cases u
 rename_i d;simp only[Option.some.injEq,Prod.mk.injEq]at u;obtain⟨rfl,rfl,rfl⟩:=u;have i:=h.round;rw[d]at i;have e:=n.jr
 let j:Loc:=⟨w.heap.size,0,0,0⟩
 have a:=fb (l:=j) e;have s:=n.new (l:=j) (o:=.fP B') (co:=.deferred (q' [])) rfl trivial rfl;have p:=s.jr
 let m:Loc:=⟨w.heap.size+1,0,0,0⟩
 have c:=fb (l:=m) p;have v:((ρ.add st.n j).add (st.new (.fP B')).n m) st.n=q' j:=c _ _ (dG _ _ _);have y:=s.new (l:=m) (o:=.loop {state:=.ready,pending:=u',fn:=fc.fn,tm:=fr.tm,nt:=fc.nt,params:=params.toList,assign,body,defers:=st.n}) (co:=.loop {state:=.ready,pending:=u',fn:=b.fn,tmps:=tm,params,assign,body,defers:=w.heap.size}) (by simp[m]) trivial
  ⟨_,rfl,rfl,rfl,h.fn,h.tm.mono (a.trans c),rfl,rfl,rfl,⟨j,v,rfl⟩,t⟩
 refine⟨_,_,m,[{target:=.collected w.heap.size,args:= #[]}],a.trans c,y,dG _ _ _,?_,?_⟩
 ·have x:b.round=u':=i;rw[x];exact run_enterLoop_outer _ _ _ _ _
 have f:=h.mono (a.trans c);exact⟨f.fn,f.round,f.kind,f.tm,⟨⟨⟨j,v,Z⟩,.nil⟩,f.df⟩⟩
def Hx.pass{P:Program}{m:Q'}{ρ:Ren}{k k':n_ Item}{tm:Array C'}{df:n_ J'}{cs:n_ K'}{w:G'}(e:U≠.norm)(c:∀id,U=.exit id->exitTo id k'=exitTo id k)(d:Hx P m ρ b k' tm df cs w U):Hx P m ρ b k tm df cs w U:=by
 cases U with
 |norm=>exact Y' rfl e
 |exit id=>have⟨a,s,f⟩:=d;exact⟨a,s,f.trans (c id rfl)⟩
 |ret=>exact d
 |panic v=>exact d
def jt.pass{ρ:Ren}{m:Q'}{k k':n_ Item}{ps a:eM}{cs:n_ K'}{i:Ex}{c:Fr}{dy:St}(s:i≠.norm)(j:∀id,i=.exit id->exitTo id k'=exitTo id k)(t:jt C w0 N0 G ρ fc m b k' ps cs i c a dy):jt C w0 N0 G ρ fc m b k ps cs i c a dy:=by
 have⟨f,o,h,d,e,p,r,l,q,n⟩:=t;exact⟨f,o,h,d,e,p,r,l,q,n.pass s j⟩
theorem RO{ρ:Ren}{c:T'}{k:n_ Item}{tm:Array C'}{df:n_ J'}{w:G'}{ps j:eM}{cs:n_ K'}{n:Fr}{dy:St}(H:jt C w0 N0 G ρ fc (lone (eZ b tm df (.code (.loop c)::k)) cs w) b k ps cs U n j dy):
  jt C w0 N0 G ρ fc (lone (eZ b tm df (.inLoop c::k)) cs w) b k ps cs U n j dy:=by
 have d:∀m,Steps C.P (lone (eZ b tm df (.code (.loop c)::k)) cs w) m->m≠lone (eZ b tm df (.code (.loop c)::k)) cs w->Steps C.P (lone (eZ b tm df (.inLoop c::k)) cs w) m:=by
  rintro m ⟨A,h⟩ p;cases A with
  |zero=>simp[runN]at h;exact Y' h.symm p
  |succ A=>
   simp only[runN,T6]at h;exact .head VD ⟨A,h⟩
 have t:∀{P o:K'} {l i:n_ K'} {w1 y:G'},lone P l w1=lone o i y->P=o:=by
  intro P o l i w1 y a;simp[lone]at a;exact a.2.1
 have⟨q,D,r,x,u,X,z,B,g,f⟩:=H;refine⟨q,D,r,x,u,X,z,B,g,?_⟩;cases U with
 |norm=>
  refine d _ f λa=>?_;have:=d_ Frame.todo (t a);simp only[eZ]at this;exact Y' (d_ j' this) sm
 |exit id=>
  have⟨e,s,I⟩:=f;refine⟨e,d _ s λa=>?_,I⟩
  grind [eZ]
 |ret=>
  have⟨e,s⟩:=f;refine⟨e,d _ s λa=>?_⟩
  grind [eZ]
 |panic v=>
  have⟨e,F,E,s⟩:=f;refine⟨e,F,E,d _ s λa=>?_⟩
  grind [eZ]
end
section
variable{C:eN} {w0:G'} {N0:Nat} {G:Nat->Prop} {fc:FC} {b:FB} {rc:Rec}
theorem uH(aX:qb C)(aM:L3 C)(ba:qp C)(az:C.P.follows .mixedOrders=A')(aG:∀G,y5 C w0 N0 G rc):∀(c:T') (fr:Fr) (ps:eM) (st:St) (L:Ex) (f:Fr) (e:eM) (dy:St),
  code C rc fc c fr ps st=q' (L,f,e,dy)->codeOk c=A'->∀(ρ:Ren) (w:G') (tm:Array C') (df:n_ J') (cs:n_ K') (k:n_ Item),dQ w0 N0 G ρ st w->o7 ρ fc fr b tm df->wy ρ fc.Hv ps cs->
  jt C w0 N0 G ρ fc (lone (eZ b tm df (.code c::k)) cs w) b k ps cs L f e dy:=by
 intro c;induction c with
 |skip=>
  intro fr ps st L f e dy d a ρ w tm df cs k j i m;simp only[code,Option.some.injEq,Prod.mk.injEq]at d;obtain⟨rfl,rfl,rfl,rfl⟩:=d;exact⟨ρ,w,tm,df,cs,Ren.le_refl _,j,i,.refl _ _,.one abT⟩
 |region id ops bb=>
  intro fr ps st L f e dy d a ρ w tm df cs k j i m;simp only[code]at d;refine Mc aX aM ba az aG (λbf=>?_) d k j i m;subst bf;exact a
 |seq ab b y ad=>
  intro fr ps st L f e dy d a ρ w tm df cs k j i m;simp only[codeOk,ais]at a;simp only[code]at d;cases g:code C rc fc ab fr ps st with
  |none=>rw[g]at d;cases d
  |some aA=>
   have⟨S,H,T,I⟩:=aA;have l:=y _ _ _ _ _ _ _ g a.1 ρ w tm df cs (.code b::k) j i m;have l:=l.of_steps (Ren.le_refl _) (.refl _ _) (.one (aey (P:=C.P) (x:=ab) (y:=b) (k:=k)));rw[g]at d;by_cases ae:S=.norm
   ·subst ae;have⟨n,w1,D,z,u,h,o,q,p,t⟩:=l;exact .of_steps h p t (ad _ _ _ _ _ _ _ d a.2 n w1 D z u k o q ((m.mono h).step p))
   have X:q' (S,H,T,I)=q' (L,f,e,dy):=by
    grind
   cases X;exact jt.pass (k':=.code b::k) ae (λ_ _=>Z) l
 |cond c ab b y ad=>
  intro fr ps st L f e dy d a ρ w tm df cs k j i m;simp only[codeOk,ais]at a;simp only[code]at d;split at d
  ·rename_i R;have E:=rp i.tm c _ R;generalize N:Hw tm c=Y at E;cases E;exact .of_steps (Ren.le_refl _) (.refl _ _) (.one (T4 N)) (y _ _ _ _ _ _ _ d a.1 ρ w tm df cs k j i m)
  ·rename_i R;have E:=rp i.tm c _ R;generalize N:Hw tm c=Y at E;cases E;exact .of_steps (Ren.le_refl _) (.refl _ _) (.one (T4 N)) (ad _ _ _ _ _ _ _ d a.2 ρ w tm df cs k j i m)
  cases d
 |block id ab y=>
  intro fr ps st L f e dy d a ρ w tm df cs k j i m;simp only[codeOk]at a;simp only[code]at d;cases g:code C rc fc ab fr ps st with
  |none=>rw[g]at d;cases d
  |some aA=>
   have⟨S,H,T,I⟩:=aA;have l:=y _ _ _ _ _ _ _ g a ρ w tm df cs (.inBlock id::k) j i m;have l:=l.of_steps (Ren.le_refl _) (.refl _ _) (.one (YM (P:=C.P) (id:=id) (c:=ab) (k:=k)));rw[g]at d;cases S with
   |norm=>
    cases d;have⟨n,w1,D,z,u,h,o,q,p,t⟩:=l;exact⟨n,w1,D,z,u,h,o,q,p,t.trans (.one RF)⟩
   |exit aN=>
    simp only at d;split at d
    ·rename_i hid;have hid:=aiu hid;subst hid;cases d;have⟨n,w1,D,z,u,h,o,q,p,bg,t,aW⟩:=l;have aI:exitTo aN bg=q' k:=by rw[aW];simp[exitTo]
     exact⟨n,w1,D,z,u,h,o,q,p,t.trans (.one (abU aI))⟩
    rename_i hid;cases d;refine l.pass (by intro aL;cases aL) λbj ai=>?_;cases ai;have:=aiC hid;simp only[exitTo]
    grind
   |ret=>cases d;exact l.pass (by intro aL;cases aL) λbj ai=>by cases ai
   |panic v=>cases d;exact l.pass (by intro aL;cases aL) λbj ai=>by cases ai
 |loop ab y=>
  intro fr ps st L f e dy d a ρ w tm df cs k j i m;simp only[codeOk]at a;simp only[code]at d;cases g:code C rc fc ab fr ps st with
  |none=>rw[g]at d;cases d
  |some aA=>
   have⟨S,H,T,I⟩:=aA;have l:=y _ _ _ _ _ _ _ g a ρ w tm df cs (.inLoop ab::k) j i m;have l:=l.of_steps (Ren.le_refl _) (.refl _ _) (.one (T6 (P:=C.P) (c:=ab) (k:=k)));rw[g]at d;by_cases ae:S=.norm
   ·subst ae;have⟨n,w1,D,z,u,h,o,q,p,t⟩:=l;exact .of_steps h p t (RO ((aG G).code _ _ _ _ _ _ _ _ _ d a n w1 b D z u k o q ((m.mono h).step p)))
   have X:q' (S,H,T,I)=q' (L,f,e,dy):=by
    grind
   cases X;exact jt.pass (k':=.inLoop ab::k) ae (λ_ _=>Z) l
 |rangeFunc bh aP aJ bc _ _=>
  intro fr ps st L f e dy d a ρ w tm df cs k j i m;simp only[codeOk,ais]at a;simp only[code]at d;split at d
  ·rename_i bm first A be H I aU aC
   split at d
   ·cases d
   rename_i bn aT;have E:=rp i.tm bh _ aU;generalize N:Hw tm bh=Y at E;cases E with
   |@func _ _ O _ s ag am=>
   have⟨n,w1,au,mark,h,o,aS,aD,q⟩:=CK (C:=C) a aC j i;have af:=Md (P:=C.P) (df:=df) (k:=k) (cs:=cs) N aD (s0 aM aT _);have an:du n (first.toList++[.func (.yield be) #[] #[]]++A.toList) (O++ #[Value.func (.yield au.b) #[] #[]]++s).toList:=by
    simp only[aiJ];exact((ag.mono h).append (.cons (.yield aS .nil .nil) .nil)).append (am.mono h)
   cases R:rc.call bm (first.toList++[.func (.yield be) #[] #[]]++A.toList) B' .none I with
   |none=>rw[R]at d;cases d
   |some aA=>
    have⟨aY,bi,aR⟩:=aA;rw[R]at d;have⟨aw,aH,F,bl,J,ac,aF,Q,av,aj,ak,fn,ah,r⟩:=(aG G).call _ _ _ _ _ _ _ _ R n w1 (O++ #[Value.func (.yield au.b) #[] #[]]++s) (eZ b tm (mark++df) (.inRangeFunc au.b::k)::cs) o an trivial;obtain⟨_,rfl⟩:=o8 aF;have aq:=q.mono J;cases aY with
    |ret v=>
     simp only at d r;obtain⟨K,Y,r,_⟩:=r;have M:=step_leave_returned (P:=C.P) (c:=eZ b tm (mark++df) (.inRangeFunc au.b::k)) (cs:=cs) (w:=aH) (fr:=F) ⟨K,aj,ak,fn,by rw[av];exact ah,r⟩;have aE:(eZ b tm (mark++df) (.inRangeFunc au.b::k)).finish Y=eZ b tm (mark++df) (.endRangeFunc au.b::k):=rfl;rw[aE]at M;split at d
     ·rename_i aa ap;have ar:=J _ _ aS;have⟨ay,aK,B⟩:=ac.obj _ _ _ ar ap;have aO:aa.state≠.busy->∃aV,LQ aa.pending=q' aV/\(aV,H,ps,aR.put be (.loop {aa with state:=.exhausted}))=(L,f,e,dy):=by
       all_goals grind
      have ao:aa.state≠.busy:=by
       intro X;rw[X]at d;cases d
      have⟨aV,W,X⟩:=aO ao;cases X;have aB:=run_endLoop (P:=C.P) aK (by rw[B.state];exact ao);have aQ:=ac.AJ (o2:=.loop {aa with state:=.exhausted}) (co:=.loop {ay with state:=.exhausted}) ar ap rfl rfl ⟨_,rfl,rfl,B.pending,B.fn,B.tm,B.params,B.assign,B.body,B.defers,B.ok⟩;have ax:=OG (P:=C.P) (b:=b) (tm:=tm) (df:=mark++df) (k:=k) (cs:=cs) aB;have x:=Steps.head af (Q.trans (.head M (.one ax)));refine⟨aw,_,tm,mark++df,cs,h.trans J,aQ,aq,.refl _ _,?_⟩;have V:=B.pending;cases U:aa.pending with
      |none=>
       rw[U]at V W;cases W;have X:(Option.map Item.code ay.pending).toList++k=k:=by rw[V];rfl
       rw[X]at x;exact x
      |some bk=>
       rw[U]at V W;have X:(Option.map Item.code ay.pending).toList++k=.code bk::k:=by rw[V];rfl
       rw[X]at x;cases bk with
       |ret=>cases W;exact⟨k,x⟩
       |exit id=>cases W;exact⟨k,x,rfl⟩
       |_=>cases W
     cases d
    |fJ v=>
     simp only at d r;cases d;have⟨Y,K,E⟩:=r;have M:=step_leave_panicked (P:=C.P) (c:=eZ b tm (mark++df) (.inRangeFunc au.b::k)) (cs:=cs) (w:=aH) (fr:=F) ⟨K,aj,fn,by rw[av];exact ah⟩;exact⟨aw,aH,tm,mark++df,cs,h.trans J,ac,aq,.refl _ _,.inRangeFunc au.b::k,Y,E,Steps.head af (Q.trans (.one M))⟩
  cases d
 |exit id=>
  intro fr ps st L f e dy d a ρ w tm df cs k j i m;simp only[code,Option.some.injEq,Prod.mk.injEq]at d;obtain⟨rfl,rfl,rfl,rfl⟩:=d;exact⟨ρ,w,tm,df,cs,Ren.le_refl _,j,i,.refl _ _,k,.refl _ _,Z⟩
 |ret=>
  intro fr ps st L f e dy d a ρ w tm df cs k j i m;simp only[code,Option.some.injEq,Prod.mk.injEq]at d;obtain⟨rfl,rfl,rfl,rfl⟩:=d;exact⟨ρ,w,tm,df,cs,Ren.le_refl _,j,i,.refl _ _,k,.refl _ _⟩
 |scope _ _=>intro fr ps st L f e dy d;cases d
 |label _=>intro fr ps st L f e dy d;cases d
 |goto _=>intro fr ps st L f e dy d;cases d
 |refuse _=>intro fr ps st L f e dy d;cases d
end
def OH(ρ:Ren)(m:Mode)(b:FrameMode):Prop:=
 match m with
 |.returning=>b=.returning
 |.panicking v=>∃a,b=.panicking [{v:=a,recovered:=B'}]/\dA ρ v a
def OH.mono{ρ a:Ren}(b:ρ.le a){m:Mode}{c:FrameMode}(e:OH ρ m c):OH a m c:=by
 cases m with
 |returning=>exact e
 |panicking v=>have⟨d,h,f⟩:=e;exact⟨d,h,f.mono b⟩
def VO(m:Mode):eM:=match m with|.returning=>.none|.panicking v=>.hD v
variable{O:n_ J'}
section
variable{P:Program} {F:K'} {cs:n_ K'} {w w1:G'}
def T7{ρ:Ren}{m:Mode}{b:FrameMode}(c:OH ρ m b):b≠.run:=by
 cases m with
 |returning=>intro a;rw[a]at c;cases c
 |panicking v=>have⟨d,a,_⟩:=c;rw[a];intro a;cases a
def abY{args:Array C'}{b:n_ J'}(e:F.mode≠.run)(c:F.defers={target:=.collected g,args}::O)(d:(Instr.takeDeferred g).run P w=.ok b w1):
  step P (lone F cs w)=.next (lone {F with defers:=b++O} cs w1):=by
 refine step_lone_go ?_;cases a:F.mode with
 |run=>exact Y' a e
 |returning=>simp[stepG,a,unwind,c,Sem.runT_eq,d]
 |panicking f=>simp[stepG,a,unwind,c,Sem.runT_eq,d]
def OI{args a:Array C'}(e:F.mode≠.run)(c:F.defers={target:=.fn (.func H) a,args}::O)(f:(callFunc H (args++a)).run P w=.ok (.enter H (args++a)) w1):
  step P (lone F cs w)=.next (lone (Frame.enter P H (args++a) .deferred) ({F with defers:=O}::cs) w1):=by
 have d:(invoke (.fn (.func H) a) args).run P w=.ok (.enter H (args++a)) w1:=f;refine step_lone_go ?_;cases b:F.mode with
 |run=>exact Y' b e
 |returning=>simp[stepG,b,unwind,c,callDeferred,Sem.runT_eq,d]
 |panicking h=>simp[stepG,b,unwind,c,callDeferred,Sem.runT_eq,d]
def OJ(c:K'):K':=
 match c.mode with
 |.panicking ({recovered:=A',.. }::a)=>
  match a.dropWhile (!·.goexit)with
  |[]=>{c with mode:=.returning}
  |rest=>{c with mode:=.panicking rest}
 |_=>c
def sk{c:K'}{fn:Func}{v:C'}(b:F.mode=.returning)(a:F.defers=[])(d:F.kind=.deferred)(e:P.funcs[F.fn]?=q' fn)(f:(results fn F.tmps).run P w=.ok v w):
  step P (lone F (c::cs) w)=.next (lone (OJ c) cs w):=by
 refine step_lone_go ?_;simp[stepG,b,unwind,a,e,Sem.runT_eq,f,doReturn,d,OJ];rfl
end
section
variable{C:eN} {w0:G'} {N0:Nat} {G:Nat->Prop} {rc:Rec} {b:FB}
def AK(aj:L3 C)(am:y5 C w0 N0 G rc)(tm:Array C')(c:n_ Item)(cs:n_ K'):∀(g:n_ J') (m:Mode) (st:St) (M:Mode) (p:St),mB C rc g m st=q' (M,p)->
  ∀(ρ:Ren) (w:G') (df:n_ J') (h:FrameMode),dQ w0 N0 G ρ st w->FL ρ g df->OH ρ m h->
  ∃e s j,ρ.le e/\dQ w0 N0 G e p s/\OH e M j/\Steps C.P (lone {eZ b tm df c with mode:=h} cs w) (lone {eZ b tm [] c with mode:=j} cs s):=by
 intro g;induction g with
 |nil=>
  intro m st M p u ρ w df h z H i;simp only[mB,Option.some.injEq,Prod.mk.injEq]at u;obtain⟨rfl,rfl⟩:=u;cases df with
  |nil=>exact⟨ρ,w,h,Ren.le_refl _,z,i,.refl _ _⟩
  |cons ap df=>exact H.elim
 |cons ap g ag=>
  intro m st M p u ρ w df h z H i;cases df with
  |nil=>exact H.elim
  |cons ak df=>
  have⟨Q,N⟩:=H;have k:=Q.target;have⟨aB,args⟩:=ap;have⟨Y,d⟩:=ak;simp only[mB]at u;split at u
  ·rename_i ai;split at u
   ·rename_i aa;cases Y with
    |collected au=>
     obtain⟨ar,ad,rfl⟩:=k;have S:w.heap[ar.b]?=q' (.deferred (q' [])):=z.obj _ _ _ ad aa;have X:=abY (P:=C.P) (F:={eZ b tm ({target:=.collected ar.b,args:=d}::df) c with mode:=h}) (cs:=cs) (T7 i) rfl (run_takeDeferred S);have af:=z.AJ (o2:=.fP A') (co:=.deferred u') ad aa rfl rfl rfl;have⟨e,s,j,E,x,y,f⟩:=ag _ _ _ _ u ρ _ df h af N i;exact⟨e,s,j,E,x,y,.head X f⟩
    |_=>exact k.elim
   cases u
  ·rename_i av l;split at u
   ·rename_i aA v ps ao ah an;cases Y with
    |fn aw a=>
     cases aw with
     |func ay=>
      obtain⟨rfl,K⟩:=k;have L:du ρ (args.toList++l.toList) (d++a).toList:=by
       simp only[aiJ];exact Q.args.append K
      have X:=OI (P:=C.P) (F:={eZ b tm ({target:=.fn (.func av) a,args:=d}::df) c with mode:=h}) (cs:=cs) (T7 i) rfl (s0 (w:=w) aj ah _);have ae:wy ρ A' (VO m) ({eZ b tm df c with mode:=h}::cs):=by
       cases m with
       |returning=>exact⟨_,_,rfl,i⟩
       |panicking aq=>have⟨I,az,ai⟩:=i;exact⟨_,_,I,rfl,az,ai⟩
      have⟨O,V,F,W,n,ab,T,f,R,B,o,fn,D,q,I,A,_⟩:=am.call _ _ _ _ _ _ _ _ an ρ w (d++a) ({eZ b tm df c with mode:=h}::cs) z L ae;have J:∃r,OH O (match m,ps with|.panicking _,.tC=>.returning|m,_=>m) r/\step C.P (lone F W V)=.next (lone {eZ b tm df c with mode:=r} cs V):=by
       rcases T with⟨rfl,rfl⟩|⟨aq,al,rfl,rfl⟩
       ·refine⟨h,?_,?_⟩
        ·cases m<;>exact i.mono n
        rw[sk q B o (by rw[R];exact D) A];cases m with
        |returning=>
         cases i;rfl
        |panicking aq=>
         obtain⟨I,rfl,ai⟩:=i;rfl
       cases m with
       |returning=>cases al
       |panicking ax=>
        obtain⟨I,rfl,ai⟩:=i;refine⟨.returning,Z,?_⟩;simp only[AE];rw[sk q B o (by rw[R];exact D) A];rfl
      have⟨r,ac,U⟩:=J;have⟨e,s,j,E,x,y,t⟩:=ag _ _ _ _ u O V df r ab (N.mono n) ac;exact⟨e,s,j,n.trans E,x,y,.head X (f.trans (.head U t))⟩
     |_=>exact k.elim
    |_=>exact k.elim
   cases u
  cases u
end
section
variable{C:eN} {w0:G'} {N0:Nat} {G:Nat->Prop} {rc:Rec}
def Me(l:qb C){ρ:Ren}{st:St}{w:G'}{tm:Array C'}(m:dQ w0 N0 G ρ st w)(h:pP ρ g I tm){j:ResultVar}{v:C'}(f:Fw C I st j=q' v):
  ∃a,((match j with|.tmp I=>pure (tm.getD I undef)|.cell k I=>do loadVar I (<-asAddr (tm.getD k undef))):Sem C').run C.P w=.ok a w/\dA ρ v a:=by
 cases j with
 |tmp u=>exact⟨_,rfl,h.get f⟩
 |cell k o=>
  simp only[Fw]at f;split at f
  ·rename_i x n;split at f
   ·rename_i y s c;cases f;have e:=h.get n;have⟨a,i,p,_⟩:=Of l m e c;refine⟨a,?_,p⟩;unfold At at c;split at c
    ·rename_i r b t _;have⟨D,q,d⟩:=ER e;rw[d]at i;show(do loadVar o (<-asAddr (tm.getD k undef)):Sem C').run C.P w=.ok a w;rw[d];exact i
    cases c
   cases f
  cases f
def HM(k:qb C){ρ:Ren}{st:St}{w:G'}{tm:Array C'}(m:dQ w0 N0 G ρ st w)(j:pP ρ g I tm):∀{f:n_ ResultVar} {b:n_ C'},se C I st f=q' b->
  ∃a,(f.mapM (λq=>(match q with|.tmp I=>pure (tm.getD I undef)|.cell r I=>do loadVar I (<-asAddr (tm.getD r undef)):Sem C'))).run C.P w=.ok a w/\du ρ b a:=by
 intro f;induction f with
 |nil=>intro b c;cases c;exact⟨[],rfl,.nil⟩
 |cons q f o=>
  intro b c;simp only[se]at c;split at c
  ·rename_i v vs1 l i;cases c;have⟨h,n,p⟩:=Me k m j l;have⟨a,d,e⟩:=o i;refine⟨h::a,?_,.cons p e⟩;rw[List.mapM_cons,ct _ n,ct _ d];rfl
  cases c
def HN(j:qb C){ρ:Ren}{st:St}{w:G'}{tm:Array C'}(f:dQ w0 N0 G ρ st w)(i:pP ρ g I tm){fn:Func}(e:se C I st fn.results.toList=q' E):
  ∃c,(results fn tm).run C.P w=.ok c w/\dA ρ (xZ E) c:=by
 have⟨b,h,a⟩:=HM j f i e;have d:(fn.results.mapM (λl=>(match l with|.tmp I=>pure (tm.getD I undef)|.cell n I=>do loadVar I (<-asAddr (tm.getD n undef)):Sem C'))).run C.P w=.ok b.toArray w:=by
  rw[Array.mapM_eq_mapM_toList];show(Functor.map List.toArray _:Sem (Array C')).run C.P w=_;rw[map_eq_pure_bind,ct _ h];rfl
 refine⟨if e:b.toArray.size=1 then b.toArray[0]else .tuple b.toArray,?_,?_⟩
 ·unfold results;exact(ct _ d).trans Z
 have k:=a.len
 match E,b,a with
 |[],[],_=>exact .tuple .nil
 |[v],[c],.cons e _=>exact e
 |v::p::l,c::o::m,a=>
  rw[dif_neg sm];exact .tuple a
 |[],_::_,a=>cases a
 |_::_,[],a=>cases a
 |[_],_::_::_,a=>cases a with|cons _ I=>cases I
 |_::_::_,[_],a=>cases a with|cons _ I=>cases I
theorem VP(j:L3 C){ρ:Ren}{c:FI}(d:C.ff.get H=q' c)(b:Bool)(i:j' E<=c.nt)(p:du ρ E B.toList):
  ∃tm,Frame.enter C.P H B (kindOf b)=eZ ⟨H,kindOf b,u'⟩ tm [] [.code c.body]/\o7 ρ ⟨H,c.nt,u',b⟩ ⟨gC 0 E .nil,[]⟩ ⟨H,kindOf b,u'⟩ tm []:=by
 have⟨fn,h,f,l,_,_⟩:=j.fn _ _ d;have k:=p.len;refine⟨B++aiU (c.nt-B.size) undef,?_,Z,Z,Z,⟨?_,λn v m=>?_⟩,tv⟩
 ·simp[Frame.enter,eZ,h,f,l]
 ·grind
 have a:(gC 0 E .nil).get n=q' v:=m;rw[sh]at a;split at a
 ·rename_i r;have o:B.size=j' E:=by rw[k];simp
  obtain⟨e,s,q⟩:=p.get (i:=n) (by simpa using a);refine⟨e,?_,q⟩;rw[Array.getElem?_append_left om];simpa using s
 rw[rl]at a;cases a
def FR(aa:qb C)(A:L3 C)(ae:qp C)(Q:C.P.follows .mixedOrders=A')(ai:∀H o,C.ff.get H=q' o->codeOk o.body=A')(T:∀G,y5 C w0 N0 G rc){ps x:eM}{st dy:St}{M:CR} 
  (k:Au C rc H E L ps st=q' (M,x,dy)) {ρ:Ren} {w:G'} {cs:n_ K'} (af:dQ w0 N0 G ρ st w) (N:du ρ E B.toList) (ag:wy ρ L ps cs):ES C w0 N0 G ρ H B L ps M x dy cs w:=by
 unfold Au at k;split at k
 ·cases k
 rename_i o J;split at k
 ·cases k
 rename_i R;have⟨tm,F,W⟩:=VP A J L (aiM R) N;have⟨fn,g,_,_,K,_⟩:=A.fn _ _ J;have P:∀{m:Mode} {s:Fr} {y:eM} {t:St} {a:Ren} {w1:G'} {i:Array C'} {e:n_ J'} {c:n_ K'} {p:n_ Item} {m':FrameMode},finish C rc o m s y t=q' (M,x,dy)->ρ.le a->dQ w0 N0 G a t w1->
   o7 a ⟨H,o.nt,u',L⟩ s ⟨H,kindOf L,u'⟩ i e->rn ps y cs c->OH a m m'->
   Steps C.P (lone (eZ ⟨H,kindOf L,u'⟩ tm [] [.code o.body]) cs w) (lone {eZ ⟨H,kindOf L,u'⟩ i e p with mode:=m'} c w1)->ES C w0 N0 G ρ H B L ps M x dy cs w:=by
  intro m s y t a w1 i e c p m' k l h d j ab f;unfold finish at k;split at k
  ·cases k
  ·rename_i v Y S;cases k;have⟨X,U,ad,n,u,z,r⟩:=AK (b:=⟨H,kindOf L,u'⟩) A (T G) i p c _ _ _ _ _ S a w1 e m' h d.df ab;obtain⟨D,rfl,I⟩:=z;exact⟨X,U,_,c,l.trans n,u,j,by rw[F];exact f.trans r,Z,Z,Z,fn,g,D,Z,I⟩
  rename_i Y S;split at k
  ·rename_i al O;cases k;have⟨X,U,ad,n,u,z,r⟩:=AK (b:=⟨H,kindOf L,u'⟩) A (T G) i p c _ _ _ _ _ S a w1 e m' h d.df ab;cases z;rw[<-K]at O;have⟨D,ah,I⟩:=HN aa u (d.tm.mono n) O;exact⟨X,U,_,c,l.trans n,u,j,by rw[F];exact f.trans r,Z,Z,Z,fn,g,Z,D,ah,I⟩
  cases k
 cases V:code C rc ⟨H,o.nt,u',L⟩ o.body ⟨gC 0 E .nil,[]⟩ ps st with
 |none=>rw[V]at k;cases k
 |some aj=>
  have⟨ak,s,y,t⟩:=aj;rw[V]at k;have⟨a,w1,i,e,c,l,h,d,j,q⟩:=uH (b:=⟨H,kindOf L,u'⟩) aa A ae Q T o.body _ _ _ _ _ _ _ V (ai _ _ J) ρ w tm [] cs [] af W ag;cases ak with
  |norm=>exact P k l h d j (m':=.returning) rfl (Steps.trans q (.one (aeA rfl)))
  |ret=>
   have⟨ac,f⟩:=q;exact P k l h d j (m':=.returning) Z (Steps.trans f (.one (aez Z)))
  |panic v=>
   have⟨ac,D,I,f⟩:=q;exact P k l h d j (m':=.panicking [{v:=D,recovered:=B'}]) ⟨D,Z,I⟩ f
  |exit id=>cases k
def HO{ρ:Ren}:∀{ps:n_ Tmp} {b:n_ C'} {j d:Tr C'} {a:n_ C'} {tm:Array C'},o6 ps b g j=q' d->du ρ b a->pP ρ g j tm->
  j' ps=j' a/\pP ρ g d ((ps.zip a).foldl (λh (q:Tmp×C')=>h.setIfInBounds q.1 q.2) tm):=by
 intro ps;induction ps with
 |nil=>
  intro b j d a tm e c f;cases b with
  |nil=>cases c;cases e;exact⟨rfl,f⟩
  |cons v b=>cases e
 |cons r ps o=>
  intro b j d a tm e c f;cases b with
  |nil=>cases e
  |cons v b=>
   cases c with
   |@cons _ t _ a c l=>
   simp only[o6]at e;split at e
   ·rename_i k;have i:=jH (fr:=⟨j,[]⟩) (nt:=g) (dst:=q' r) (fr':=⟨j.set r v,[]⟩) f c (by simp only[kr,k]);have⟨n,m⟩:=o e l i.1;exact⟨by simp[n],m⟩
   cases e
end
section
variable{P:Program} {b:FB} {tm:Array C'} {df:n_ J'} {k:n_ Item} {cs:n_ K'} {w w1:G'} {c:K'}
def HP(a:b.round=q' g)(c:(Instr.beginRound g).run P w=.ok () w1):
  step P (lone (eZ b tm df (.beginRound::k)) cs w)=.next (lone (eZ b tm df k) cs w1):=
 step_lone_go (by simp[stepG,stepG.exec,stepG.apply,eZ,a,Sem.runT_eq,c,Result.andThen,Frame.finish])
def Mf{v:C'}(d:b.round=q' g)(a:b.kind=.normal)(e:(Instr.endRound g u').run P w=.ok v w1):
  step P (lone (eZ b tm df []) (c::cs) w)=.next (lone (c.finish v) cs w1):=
 step_lone_go (by simp[stepG,stepG.exec,eZ,d,a,Sem.runT_eq,e,doReturn])
def Mg{v:C'}(d:b.round=q' g)(a:b.kind=.normal)(e:(Instr.endRound g (q' .ret)).run P w=.ok v w1):
  step P (lone (eZ b tm df (.code .ret::k)) (c::cs) w)=.next (lone (c.finish v) cs w1):=
 step_lone_go (by simp[stepG,stepG.exec,eZ,d,a,Sem.runT_eq,e,doReturn])
def HQ{h id:Nat}{v:C'}(e:b.round=q' h)(a:b.kind=.normal)(f:exitTo id k=u')(d:(Instr.endRound h (q' (.exit id))).run P w=.ok v w1):
  step P (lone (eZ b tm df (.code (.exit id)::k)) (c::cs) w)=.next (lone (c.finish v) cs w1):=
 step_lone_go (by simp[stepG,stepG.exec,eZ,e,a,f,Sem.runT_eq,d,doReturn])
end
section
variable{C:eN} {w0:G'} {N0:Nat} {G:Nat->Prop} {rc:Rec}
def OK(au:qb C)(ad:L3 C)(ax:qp C)(J:C.P.follows .mixedOrders=A')(aL:∀G,y5 C w0 N0 G rc){st dy:St}{av:CR} 
  (e:wg C rc g E st=q' (av,dy)) {ρ:Ren} {w:G'} {F:Loc} (aF:dQ w0 N0 G ρ st w) (ag:ρ g=q' F) (Q:du ρ E B.toList):Ov C w0 N0 G ρ F B av dy w:=by
 unfold wg at e;split at e
 ·rename_i h aq;split at e
  ·cases e
  ·cases e
  rename_i bb tm aG ae;have⟨a,ap,x⟩:=aF.obj _ _ _ ag aq;have⟨fn,af,_,_,_,_⟩:=ad.fn _ _ aG;have⟨X,M⟩:=HO ae Q x.tm;rw[<-x.params]at X M;have ao:B.size=a.params.size:=by simpa using X.symm
  have aO:=run_yield (P:=C.P) ap ao;refine⟨_,_,_,_,aO,λc cs=>?_⟩;have R:(a.params.zip B).foldl (λd (q:Tmp×C')=>d.setIfInBounds q.1 q.2) a.tmps=(a.params.toList.zip B.toList).foldl (λd (q:Tmp×C')=>d.setIfInBounds q.1 q.2) a.tmps:=by
   rw[<-Array.foldl_toList,Array.toList_zip]
  rw[<-R]at M;have L:Frame.round F.b a.fn ((a.params.zip B).foldl (λd (q:Tmp×C')=>d.setIfInBounds q.1 q.2) a.tmps) a.assign a.body .normal=
    eZ ⟨a.fn,.normal,q' F.b⟩ ((a.params.zip B).foldl (λd (q:Tmp×C')=>d.setIfInBounds q.1 q.2) a.tmps) [] (.code h.assign:: [.beginRound,.code h.body]):=by
   rw[<-x.assign,<-x.body];rfl
  have aJ:o7 ρ ⟨h.fn,h.nt,q' g,B'⟩ ⟨tm,[]⟩ ⟨a.fn,.normal,q' F.b⟩ ((a.params.zip B).foldl (λd (q:Tmp×C')=>d.setIfInBounds q.1 q.2) a.tmps) []:=⟨x.fn,⟨F,ag,rfl⟩,rfl,M,tv⟩;have aC:Frame.round F.b a.fn ((a.params.zip B).foldl (λd (be,ba)=>d.setIfInBounds be ba) a.tmps) a.assign a.body .normal=eZ ⟨a.fn,.normal,q' F.b⟩ ((a.params.zip B).foldl (λd (q:Tmp×C')=>d.setIfInBounds q.1 q.2) a.tmps) [] (.code h.assign:: [.beginRound,.code h.body]):=L;rw[aC];simp only at e;cases ac:code C rc ⟨h.fn,h.nt,q' g,B'⟩ h.assign ⟨tm,[]⟩ .none st with
  |none=>rw[ac]at e;cases e
  |some bc=>
   have⟨q,aD,aS,aE⟩:=bc;rw[ac]at e;have ay:=uH (b:=⟨a.fn,.normal,q' F.b⟩) au ad ax J aL h.assign _ _ _ _ _ _ _ ac x.ok.1 ρ w _ [] (c::cs) [.beginRound,.code h.body] aF aJ trivial;cases q with
   |exit id=>cases e
   |ret=>cases e
   |panic v=>cases e
   |norm=>
    have⟨am,w1,W,Y,aW,t,S,aK,az,ab⟩:=ay;obtain⟨_,rfl⟩:=o8 az;simp only at e;split at e
    ·rename_i aa N;split at e
     ·rename_i z;have H:=t _ _ ag;have⟨an,ah,i⟩:=S.obj _ _ _ H N;have aw:=run_beginRound (P:=C.P) ah (by rw[i.state];exact z);have ak:=S.AJ (o2:=.loop {aa with state:=.busy}) (co:=.loop {an with state:=.busy}) H N rfl rfl ⟨_,rfl,rfl,i.pending,i.fn,i.tm,i.params,i.assign,i.body,i.defers,i.ok⟩;have p:=Steps.trans ab (.one (HP (P:=C.P) (b:=⟨a.fn,.normal,q' F.b⟩) (tm:=W) (df:=Y) (k:=[.code h.body]) (cs:=c::cs) rfl aw));cases I:code C rc ⟨h.fn,h.nt,q' g,B'⟩ h.body aD .none (aE.put g (.loop {aa with state:=.busy}))with
      |none=>rw[I]at e;cases e
      |some aR=>
       have⟨aM,aU,aV,V⟩:=aR;rw[I]at e;have⟨y,ar,aY,T,aX,n,K,aA,aj,m⟩:=uH (b:=⟨a.fn,.normal,q' F.b⟩) au ad ax J aL h.body _ _ _ _ _ _ _ I x.ok.2 am _ W Y (c::cs) [] ak aK trivial;obtain⟨_,rfl⟩:=o8 aj;have U:=n _ _ H;have A:∀(l:Option T') (j:KX),V.get g=q' (.loop j)->∃u,(Instr.endRound F.b l).run C.P ar=.ok (.bool l.isNone) u/\dQ w0 N0 G y (V.put g (.loop {j with state:=if l.isNone then .ready else .done,pending:=l})) u:=by
        intro l j f;have⟨aT,ai,o⟩:=K.obj _ _ _ U f;exact⟨_,run_endRound l ai,K.AJ U f Z Z ⟨_,Z,Z,Z,o.fn,o.tm,o.params,o.assign,o.body,o.defers,o.ok⟩⟩
       cases aM with
       |norm=>
        simp only at e;split at e
        ·rename_i j f D;cases e;have⟨u,O,r⟩:=A u' j f;exact⟨y,u,t.trans n,r,.bool A',.bool A',(p.trans m).trans (.one (Mf Z Z O))⟩
        cases e
       |ret=>
        have⟨aH,s⟩:=m;simp only at e;split at e
        ·rename_i j f D;cases e;have⟨u,O,r⟩:=A (q' .ret) j f;exact⟨y,u,t.trans n,r,.bool B',.bool B',(p.trans s).trans (.one (Mg Z Z O))⟩
        cases e
       |exit id=>
        have⟨aH,s,aN⟩:=m;simp only at e;split at e
        ·rename_i j f D;cases e;have⟨u,O,r⟩:=A (q' (.exit id)) j f;exact⟨y,u,t.trans n,r,.bool B',.bool B',(p.trans s).trans (.one (HQ Z Z aN O))⟩
        cases e
       |panic v=>
        have⟨aH,aQ,aP,s⟩:=m;simp only at e;split at e
        ·rename_i D;cases e;have aI:=aA.df;rw[D]at aI;have aB:T=[]:=by
          cases T with
          |nil=>rfl
          |cons _ _=>exact aI.elim
         subst aB;refine⟨y,ar,t.trans n,K,aQ,aP,(p.trans s).trans (.one (step_leave_panicked ⟨Z,Z,fn,?_⟩))⟩;show C.P.funcs[a.fn]?=q' fn;rw[x.fn];exact af
        cases e
     cases e
    cases e
 cases e
def OL:C'->Bool
 |.tuple ⟨a⟩=>a.all flat
 |v=>flat v
def FT(C:eN)(w0:G')(N0:Nat)(d:r3):Prop:=
 ∀e b v,d e b=q' v->(OL v=A'/\∀(ρ:Ren) (a:Array C') (w:G'),du ρ b a.toList->Below N0 w0 w->N0<=w.heap.size->
  Calls C.P e a w λi c=>i=.returned v/\Below w.heap.size w c)∨
  ∃h j,v=.agg ⟨[h,.iface j .nilIface]⟩/\flat h=A'/\∀(ρ:Ren) (a:Array C') (w:G'),du ρ b a.toList->Below N0 w0 w->N0<=w.heap.size->
   Calls C.P e a w λi c=>∃f,i=.returned (.tuple ⟨[h,.iface j (.pointer (q' ⟨f,0,u'⟩))]⟩)/\w.heap.size<=f/\f<c.heap.size/\Below w.heap.size w c
def VT{v:C'}(a:OL v=A')(ρ:Ren):dA ρ v v:=by
 unfold OL at a;split at a
 ·exact .tuple (kR a ρ)
 exact wq a ρ
def Mh{v:C'}(a:OL v=A')(ps:eM)(st:St):EN v ps st=q' (.ret v,ps,st):=by
 unfold EN;split
 ·simp[OL,flat]at a
 rfl
theorem RP{r:r3}(Q:FT C w0 N0 r){v:C'}(U:r H E=q' v){ρ:Ren}{st:St}{w:G'}{cs:n_ K'}{ps:eM}(a:dQ w0 N0 G ρ st w)(l:du ρ E B.toList){J:CR}{dy:St}(X:EN v ps st=q' (J,V,dy)):
  ES C w0 N0 G ρ H B B' ps J V dy cs w:=by
 rcases Q H E v U with⟨m,g⟩|⟨Y,W,rfl,m,g⟩
 ·rw[Mh m]at X;cases X;obtain⟨d,u,fr,⟨rfl,p⟩,e,i,h,D,F,fn,j,k⟩:=g ρ B w l a.below a.K1 cs;exact⟨ρ,u,fr,cs,Ren.le_refl _,a.YG p,.refl _ _,e,i,D,F,fn,by rw[<-i];exact j,h,v,k,VT m ρ⟩
 cases X;obtain⟨d,u,fr,⟨P,rfl,S,A,p⟩,e,i,h,D,F,fn,j,k⟩:=g ρ B w l a.below a.K1 cs;have s:=a.YG p;have y:ρ.le (λb=>if b=st.n then q' ⟨P,0,1,1⟩else ρ b):=λb t d=>by
  have:=(a.Af b t d).1
  grind
 have o:∀b q,st.get b=q' q->b≠st.n:=λb q d=>by have:=a.wf.lt b q d;omega
 have O:dQ w0 N0 G (λb=>if b=st.n then q' ⟨P,0,1,1⟩else ρ b) {st with n:=st.n+1} u:=by
  refine⟨⟨λb q d=>aiA (a.wf.lt b q d),λb c d H T f=>⟨aiA (a.wf.et b c d H T f).1,(a.wf.et b c d H T f).2⟩,λH N d=>aiA (a.wf.TX H N d)⟩,s.below,s.K1,λb p=>?_,λb t d=>?_,λb t q d f=>?_,λb x t M q L d f R I z K=>?_⟩
  ·have:=a.Q8 b p
   grind [aiA]
  ·have d:(if b=st.n then q' ⟨P,0,1,1⟩else ρ b)=q' t:=d;split at d
   ·cases d
    subst_vars
    exact⟨Nat.lt_succ_self _,Nat.le_trans a.K1 S,A⟩
   have:=s.Af b t d
   grind [aiA]
  ·have d:(if b=st.n then q' ⟨P,0,1,1⟩else ρ b)=q' t:=d;rw[W' (o b q f)]at d;exact(s.obj b t q d f).mono y
  have d:(if b=st.n then q' ⟨P,0,1,1⟩else ρ b)=q' t:=d;have f:(if x=st.n then q' ⟨P,0,1,1⟩else ρ x)=q' M:=f;rw[W' (o b q I)]at d;rw[W' (o x L z)]at f;exact s.sep b x t M q L d f R I z K
 refine⟨_,u,fr,cs,y,O,.refl _ _,e,i,D,F,fn,by rw[<-i];exact j,h,_,k,.tuple (.cons (wq m _) (.cons (.iface W (.ptr (l:=⟨P,0,1,1⟩) (by
  show(if st.n=st.n then _ else _)=_;rw[X' rfl]))) .nil))⟩
theorem abZ(j:qb C)(l:L3 C)(m:qp C)(d:C.P.follows .mixedOrders=A')(t:∀y u,C.ff.get y=q' u->codeOk u.body=A'){e:r3}(z:FT C w0 N0 e):∀x G,y5 C w0 N0 G (kY C e x):=by
 intro x;induction x with
 |zero=>
  intro G;exact⟨λ_ _ _ _ _ _ _ _ _ h=>by(cases h),λ_ _ _ _ _ _ _ _ h=>by(cases h),λ_ _ _ _ _ h=>by(cases h)⟩
 |succ x p=>
  intro G;refine⟨λfc c fr ps st B g q dy h r ρ w b tm df cs k f P n=>?_,λy i s ps st D q dy h ρ w o cs f a n=>?_,λE i st D dy h ρ w A o f F a=>?_⟩
  ·exact uH j l m d p c _ _ _ _ _ _ _ h r ρ w tm df cs k f P n
  ·cases s with
   |true=>exact FR j l m d t p h f a n
   |false=>
    cases X:e y i with
    |none=>
     simp only[kY,X]at h;exact FR j l m d t p h f a n
    |some v=>
     grind [kY,RP]
  exact OK j l m d p h f F a
def tJ{ρ:Ren}{v a:C'}(b:flat v=A')(c:dA ρ v a):a=v:=by
 cases c<;>first|rfl|cases b
theorem OM(x:qb C)(y:L3 C)(D:qp C)(j:C.P.follows .mixedOrders=A')(A:∀H r,C.ff.get H=q' r->codeOk r.body=A'){f:r3}{w:G'}(P:FT C w w.heap.size f){v:C'}{ps:eM}{st:St}(a:(kY C f g).call H E B' .none ⟨.nil,0,.nil⟩=q' (.ret v,ps,st))(h:E.all flat=A')(z:flat v=A'):
  Calls C.P H E.toArray w λL k=>L=.returned v/\Below w.heap.size w k:=by
 intro cs;have e:∀t,(⟨.nil,0,.nil⟩:St).get t=u':=λt=>rl t;have G:dQ w w.heap.size (λ_=>False) (λ_=>u') ⟨.nil,0,.nil⟩ w:=by
  refine⟨⟨λb I a=>?_,λb c L H S a=>?_,λH N a=>?_⟩,.refl _ _,aiS _,λb a=>a.elim,λb M a=>by(cases a),λb M I a=>by(cases a),λb O M R I Q a=>by(cases a)⟩
  ·rw[e]at a;cases a
  ·rw[e]at a;cases a
  grind [rl]
 obtain⟨B,k,F,J,K,n,q,d,i,o,u,fn,l,X,s,m,p⟩:=(abZ x y D j A P g (λ_=>False)).call _ _ _ _ _ _ _ _ a (λ_=>u') w E.toArray cs G (by simpa using kR h _) trivial;obtain⟨_,rfl⟩:=o8 q;have:=tJ z p;subst this;exact⟨.returned s,k,F,⟨Z,n.below⟩,d,i,X,o,u,fn,by rw[i];exact l,m⟩
end
def indexByte:cC->Nat->Nat->Int
 |[],_,_=> -1
 |x::b,c,a=>match aiN x.toNat c with|true=>.ofNat a|false=>indexByte b c (a+1)
def vv:cC->cC->Bool
 |[],_=>A'
 |_,[]=>B'
 |a::d,b::c=>match aiN a.toNat b.toNat with|true=>vv d c|false=>B'
def mR(a:cC):cC->Bool
 |[]=>match a with|[]=>A'|_=>B'
 |x::b=>match vv a (x::b)with|true=>A'|false=>mR a b
def AL(a b:cC):Int:=match cS a b with|true=> -1|false=>match mA a b with|true=>0|false=>1
def countB(c:Nat):cC->Nat
 |[]=>0
 |x::a=>match aiN x.toNat c with|true=>countB c a+1|false=>countB c a
theorem ON(b:UInt8){c:Nat}(a:c<256):(b==c.toUInt8)=aiN b.toNat c:=by
 rw[aiO];simp only[beq_iff_eq,aiF];constructor
 ·rintro rfl;simp[Nat.mod_eq_of_lt a]
 intro d;apply UInt8.toNat_inj.1;simp[Nat.mod_eq_of_lt a,d]
theorem K6(b a:UInt8):(b==a)=aiN b.toNat a.toNat:=by
 rw[aiO]
 grind [aiF,UInt8.toNat_inj.1]
def ab0(b a:UInt8):Nat.blt b.toNat a.toNat=decide (b<a):=by
 rw[aiO,j_,UInt8.lt_iff_toNat_lt];show Nat.ble (b.toNat+1) a.toNat=A'↔_;rw[Nat.ble_eq];exact Iff.rfl
theorem Mi{c:Nat}(e:c<256):∀(b:cC) (a:Nat),indexByte b c a=if Lib.indexByte b c.toUInt8= -1 then-1 else(a:Int)+Lib.indexByte b c.toUInt8:=by
 intro b;induction b with
 |nil=>intro a;rfl
 |cons h b d=>
  intro a;simp only[indexByte,Lib.indexByte,ON h e];cases aiN h.toNat c with
  |true=>simp
  |false=>
   simp only[d,Bool.false_eq_true,b_,beq_iff_eq];have f:=Lib.indexByte_ge b c.toUInt8;all_goals grind
theorem HR{c:Nat}(b:c<256)(a:cC):indexByte a c 0=Lib.indexByte a c.toUInt8:=by
 all_goals grind [Mi]
theorem RQ{c:Nat}(d:c<256)(a:cC):countB c a=Lib.countByte a c.toUInt8:=by
 unfold Lib.countByte;induction a with
 |nil=>rfl
 |cons e a b=>
  grind [ON,countB]
theorem YT:∀(c b:cC),AL c b=Lib.compareBytes c b:=by
 intro c;induction c with
 |nil=>intro b;cases b<;>rfl
 |cons e c a=>
  intro b;cases b with
  |nil=>rfl
  |cons d b=>
   have a:=a b;unfold AL at a⊢;simp only[Lib.compareBytes,cS,mA,ab0];all_goals grind [aiW,K6,UInt8.lt_of_le_of_ne,UInt8.not_lt.1]
theorem VU:∀(a b:cC),vv a b=a.isPrefixOf b:=by
 intro a;induction a with
 |nil=>intro b;cases b<;>simp[vv]
 |cons e a c=>
  intro b;cases b with
  |nil=>simp[vv]
  |cons d b=>
   grind [vv,K6]
theorem RR(a:cC):∀(s:cC),mR a s=Lib.contains s a:=by
 intro s;unfold Lib.contains;induction s with
 |nil=>cases a<;>simp[mR,Lib.index]
 |cons b s c=>
  rw[aiO,j_]at c⊢;have e:Lib.index (b::s) a=if a.isPrefixOf (b::s)then 0 else if Lib.index s a== -1 then-1 else Lib.index s a+1:=rfl
  have d:mR a (b::s)=match vv a (b::s)with|true=>A'|false=>mR a s:=rfl
  rw[VU]at d;all_goals grind
def sl{b:Type}(c:Nat->b->Prop):Nat->Nat->Tr b->Prop
 |_,_,.nil=>True
 |mul,a,.node v f e=>(match v with|some d=>c a d|none=>True)/\sl c (2*mul) (mul+a) f/\sl c (2*mul) (2*mul+a) e
def Mj{j:Type}{t:Nat->j->Prop}:∀(o:Tr j) (a b k f:Nat),f<=k->sl t a b o->∀v,jS (gj k f) o=q' v->t (a*f+b) v:=by
 intro o;induction o with
 |nil=>intro a b k f _ _ v n;rw[sg]at n;cases n
 |node y C x i l=>
  intro a b k f u n v c;have⟨h,p,q⟩:=n;cases k with
  |zero=>
   have:f=0:=om;subst this;simp only[gj,jS]at c;subst c;simpa using h
  |succ k=>
   cases f with
   |zero=>
    simp only[gj,jS]at c;subst c;simpa using h
   |succ m=>
    simp only[gj]at c;cases e:aiN (m%2) 0 with
    |true=>
     rw[e]at c;simp only[jS]at c;have:=i _ _ k (m/2) om p v c;have r:=aiu e;have s:2*a*(m/2)+(a+b)=a*(m+1)+b:=by
      have d:m=2*(m/2):=om;generalize m/2=w at d;subst d;rw[aiX,Nat.mul_comm 2 a,Nat.mul_assoc];omega
     rw[<-s];exact this
    |false=>
     rw[e]at c;simp only[jS]at c;have:=l _ _ k (m/2) om q v c;have r:=aiC e;have s:2*a*(m/2)+(2*a+b)=a*(m+1)+b:=by
      have d:m=2*(m/2)+1:=om;generalize m/2=w at d;subst d;rw[aiX,aiX,Nat.mul_comm 2 a,Nat.mul_assoc];omega
     rw[<-s];exact this
theorem sl.get{a:Type}{d:Nat->a->Prop}{c:Tr a}(e:sl d 1 0 c){v:a}(b:c.get g=q' v):d g v:=by
 have:=Mj c 1 0 g g (aiS _) e v b;simpa using this
end Go.AM
