/- Part of the proof. -/
import Derived.Test.YtpejealjkmhkgaaGreatDoorKAi
import Derived.RangeFuncNested
import Derived.Lib.Bytealg
import Derived.Lib.IndexMore
set_option linter.all false
set_option maxHeartbeats 16000000
set_option maxRecDepth 100000
open Nat renaming lt_succ_of_lt->abK,beq->aet
open Bool renaming eq_iff_iff->abL,and_eq_true->aeu
open Array renaming toList_append->aev
namespace Go.AM
open Go.RowKit (Below)
def I6:fX->Bool
 |.cells .. =>false
 |.dead=>false
 |_=>true
section
variable{w0:World} {N0:Nat} {G:Nat->Prop} {ρ:Ren} {st:St} {w:World}
theorem di.yu(h:di w0 N0 G ρ st w){r:Nat}{l:Loc}{o o2:fX}{co:Obj}(hl:ρ r=some l)(hg:st.get r=some o)(F:I6 o=true)(E:I6 o2=true)(H:yj ρ l o2 (some co)):
  di w0 N0 G ρ (st.put r o2) {w with heap:=w.heap.setIfInBounds l.b co}:=by
 have v:=h.xT _ _ hl;have Gh:∀k,k≠l.b->(w.heap.setIfInBounds l.b co)[k]?=w.heap[k]?:=fun k x=>Array.getElem?_setIfInBounds_ne (fun e=>x e.symm);have n:(w.heap.setIfInBounds l.b co)[l.b]?=some co:=Array.getElem?_setIfInBounds_self_of_lt v.2.2;have RM:∀C t m,ρ C=some t->(st.put r o2).get C=some m->t.b=l.b->C=r∨m=.dead:=by
  intro C t m I s zG;by_cases f:C=r
  ·exact .inl f
  ·rw[c8,if_neg f]at s;have:=h.sep _ _ _ _ _ _ hl I zG.symm hg s (fun e=>f e.symm);cases o<;>cases m<;>first|exact .inr rfl|exact this.elim|cases F
 refine⟨⟨fun b o hb=>?_,fun b c e K L hb=>?_,h.wf.NN⟩,?_,by simpa using h.Fi,h.K1,fun b a hb=>by have:=h.xT b a hb;exact⟨this.1,this.2.1,by simpa using this.2.2⟩,fun b a o hb Vi=>?_,fun b b' l1 J o1 o2 h1 h2 he g1 g2 BM=>?_⟩
 ·exact acu
 ·rw[c8]at hb;split at hb
  ·cases hb;cases E
  ·exact h.wf.dP _ _ _ _ _ hb
 ·exact h.below.trans ⟨Z,Z,Z,by simp,fun k x=>Gh k om⟩
 ·show yj ρ a o (w.heap.setIfInBounds l.b co)[a.b]?;by_cases zG:a.b=l.b
  ·rcases RM _ _ _ hb Vi zG with rfl|rfl
   ·rw[c8,if_pos rfl]at Vi;cases Vi;rw[hl]at hb;cases hb;rw[n];exact H
   ·trivial
  ·exact Zq
 ·exact Yo
end
section
variable{P:Program} {b:FB} {tm:Array Value} {df:List Deferred} {k:List Item} {cs:List Frame} {w:World}
theorem GJ{f:Operand}{e:Array Tmp}{c m:Code}{l:Nat}{mark:List Deferred}{w1:World}{n:FuncId}{first a:Array Value}(t:D0 tm f=.func (.func n) first a) 
  (o:(Instr.enterLoop b.fn tm e c m b.round).run P w=.ok (l,mark) w1) (v:(callFunc n (first++ #[.func (.yield l) #[] #[]]++a)).run P w1=.ok (.enter n (first++ #[.func (.yield l) #[] #[]]++a)) w1):
  step P (lone (eg b tm df (.code (.rangeFunc f e c m)::k)) cs w)=
   .next (lone (Frame.enter P n (first++ #[.func (.yield l) #[] #[]]++a) .normal) (eg b tm (mark++df) (.inRangeFunc l::k)::cs) w1):=by
 refine step_lone_go ?_;have r:=Cx b tm (mark++df) (.inRangeFunc l::k);have h:(do let x<-resolve (eg b tm (mark++df) (.inRangeFunc l::k)).eval {callee:=.value f,args:= #[.const (.func (.yield l) #[] #[])],argTypes:= #[]} 0;invoke x.target x.args:Sem Next).run P w1=.ok (.enter n (first++ #[.func (.yield l) #[] #[]]++a)) w1:=by
  rw[r];unfold resolve;have s:Array.map (D0 tm) #[.const (.func (.yield l) #[] #[])]= #[.func (.yield l) #[] #[]]:=by simp[D0]
  simp only[t,s];exact v
 simp only[eg]at h o⊢;simp[stepG,stepG.exec,Sem.runT_eq,o,stepG.apply,h]
theorem I7{l:Nat}{a:Option Code}{w1:World}(c:(Instr.endLoop l).run P w=.ok a w1):
  step P (lone (eg b tm df (.endRangeFunc l::k)) cs w)=.next (lone (eg b tm df ((a.map Item.code).toList++k)) cs w1):=
 step_lone_go (by simp[stepG,stepG.exec,eg,Sem.runT_eq,c])
end
variable{A:Fr} {B:Ex} {D:St} {q y:dW}
section
variable{C:dR} {w0:World} {N0:Nat} {G:Nat->Prop} {fc:FC} {b:FB} {rc:Rec}
theorem zY{ρ:Ren}{st E:St}{w:World}{x:Fr}{tm:Array Value}{df:List Deferred}{params:Array Tmp}{assign body:Code}{l:Nat}(H:codeOk assign=true/\codeOk body=true)(I:pE fc A params.toList assign body st=some (l,x,E))(t:di w0 N0 G ρ st w)(k:lz ρ fc A b tm df):
  ∃r w1 s mark,ρ.le r/\di w0 N0 G r E w1/\r l=some s/\(Instr.enterLoop b.fn tm params assign body b.round).run C.P w=.ok (s.b,mark) w1/\lz r fc x b tm (mark++df):=by
 unfold pE at I;split at I
 ·rename_i W e;split at I
  ·rename_i T P;simp only[Option.some.injEq,Prod.mk.injEq]at I;obtain⟨rfl,rfl,rfl⟩:=I;have m:=k.round;rw[e]at m;obtain⟨n,Q,M⟩:=m;obtain⟨V,O,S⟩:=t.obj _ _ _ Q P;have f:=t.ij
   let s:Loc:=⟨w.heap.size,0,0,0⟩
   have a:=ei (l:=s) f;obtain⟨U,N,R⟩:=S.defers;refine⟨ρ.add st.n s,_,s,[],a,t.new (l:=s) (o:=.loop {state:=.ready,pending:=none,fn:=fc.fn,tm:=A.tm,nt:=fc.nt,params:=params.toList,assign,body,defers:=T.defers}) (co:=.loop {state:=.ready,pending:=none,fn:=b.fn,tmps:=tm,params,assign,body,defers:=V.defers}) Z trivial ?_,c7 _ _ _,?_,?_⟩
   ·exact⟨_,Z,Z,Z,k.fn,k.tm.mono a,Z,Z,Z,⟨U,a _ _ N,R⟩,H⟩
   ·rw[M];exact run_enterLoop_inner O _ _ _ _ _
   ·exact k.mono a
  ·cases I
 ·rename_i e;simp only[Option.some.injEq,Prod.mk.injEq]at I;obtain⟨rfl,rfl,rfl⟩:=I;have m:=k.round;rw[e]at m;have f:=t.ij
  let n:Loc:=⟨w.heap.size,0,0,0⟩
  have a:=ei (l:=n) f;have F:=t.new (l:=n) (o:=.eI false) (co:=.deferred (some [])) rfl trivial rfl;have v:=F.ij
  let s:Loc:=⟨w.heap.size+1,0,0,0⟩
  have c:=ei (l:=s) v;have J:((ρ.add st.n n).add (st.new (.eI false)).n s) st.n=some n:=c _ _ (c7 _ _ _);have L:=F.new (l:=s) (o:=.loop {state:=.ready,pending:=none,fn:=fc.fn,tm:=A.tm,nt:=fc.nt,params:=params.toList,assign,body,defers:=st.n}) (co:=.loop {state:=.ready,pending:=none,fn:=b.fn,tmps:=tm,params,assign,body,defers:=w.heap.size}) (by simp[s]) trivial
   ⟨_,rfl,rfl,rfl,k.fn,k.tm.mono (a.trans c),rfl,rfl,rfl,⟨n,J,rfl⟩,H⟩
  refine⟨_,_,s,[{target:=.collected w.heap.size,args:= #[]}],a.trans c,L,c7 _ _ _,?_,?_⟩
  ·have K:b.round=none:=m;rw[K];exact run_enterLoop_outer _ _ _ _ _
  ·have h:=k.mono (a.trans c);exact⟨h.fn,h.round,h.kind,h.tm,⟨⟨⟨n,J,Z⟩,.nil⟩,h.df⟩⟩
theorem Gz.pass{P:Program}{h:Machine}{ρ:Ren}{k k':List Item}{tm:Array Value}{df:List Deferred}{cs:List Frame}{w:World}(f:B≠.norm)(c:∀id,B=.exit id->exitTo id k'=exitTo id k)(e:Gz P h ρ b k' tm df cs w B):Gz P h ρ b k tm df cs w B:=by
 cases B with
 |norm=>exact absurd rfl f
 |exit id=>obtain⟨a,s,l⟩:=e;exact⟨a,s,l.trans (c id rfl)⟩
 |ret=>exact e
 |panic m=>exact e
theorem il.pass{ρ:Ren}{H:Machine}{k k':List Item}{l c:dW}{cs:List Frame}{o:Ex}{e:Fr}{a:St}(E:o≠.norm)(s:∀id,o=.exit id->exitTo id k'=exitTo id k)(I:il C w0 N0 G ρ fc H b k' l cs o e c a):il C w0 N0 G ρ fc H b k l cs o e c a:=by
 obtain⟨f,r,h,n,m,t,w,F,v,x⟩:=I;exact⟨f,r,h,n,m,t,w,F,v,x.pass E s⟩
theorem LN{ρ:Ren}{c:Code}{k:List Item}{tm:Array Value}{df:List Deferred}{w:World}{cs:List Frame}(S:il C w0 N0 G ρ fc (lone (eg b tm df (.code (.loop c)::k)) cs w) b k q cs B A y D):
  il C w0 N0 G ρ fc (lone (eg b tm df (.inLoop c::k)) cs w) b k q cs B A y D:=by
 have f:∀I,Steps C.P (lone (eg b tm df (.code (.loop c)::k)) cs w) I->I≠lone (eg b tm df (.code (.loop c)::k)) cs w->Steps C.P (lone (eg b tm df (.inLoop c::k)) cs w) I:=by
  rintro I ⟨P,m⟩ t;cases P with
  |zero=>simp[runN]at m;exact absurd m.symm t
  |succ P=>
   simp only[runN,NV]at m;exact .head Pv ⟨P,m⟩
 have e:∀{L r:Frame} {o n:List Frame} {w1 H:World},lone L o w1=lone r n H->L=r:=by
  intro L r o n w1 H a;simp[lone]at a;exact a.2.1
 obtain⟨v,J,x,F,E,M,O,Q,N,l⟩:=S;refine⟨v,J,x,F,E,M,O,Q,N,?_⟩;cases B with
 |norm=>
  refine f _ l fun a=>?_;have:=congrArg Frame.todo (e a);simp only[eg]at this;exact absurd (congrArg List.length this) sm
 |exit id=>
  obtain⟨h,s,T⟩:=l;refine⟨h,f _ s fun a=>?_,T⟩;have:=congrArg Frame.todo (e a);simp[eg]at this
 |ret=>
  obtain⟨h,s⟩:=l;refine⟨h,f _ s fun a=>?_⟩;have:=congrArg Frame.todo (e a);simp[eg]at this
 |panic U=>
  obtain⟨h,K,R,s⟩:=l;refine⟨h,K,R,f _ s fun a=>?_⟩;have:=congrArg Frame.mode (e a);simp[eg]at this
end
section
variable{C:dR} {w0:World} {N0:Nat} {G:Nat->Prop} {fc:FC} {b:FB} {rc:Rec}
theorem sp(bb:nQ C)(aP:Fm C)(be:nX C)(aD:C.P.follows .mixedOrders=true)(aK:∀G,wH C w0 N0 G rc):∀(c:Code) (r:Fr) (o:dW) (st:St) (j:Ex) (l:Fr) (h:dW) (f:St),
  code C rc fc c r o st=some (j,l,h,f)->codeOk c=true->∀(ρ:Ren) (w:World) (tm:Array Value) (df:List Deferred) (cs:List Frame) (k:List Item),di w0 N0 G ρ st w->lz ρ fc r b tm df->uv ρ fc.DZ o cs->
  il C w0 N0 G ρ fc (lone (eg b tm df (.code c::k)) cs w) b k o cs j l h f:=by
 intro c;induction c with
 |skip=>
  intro r o st j l h f a e ρ w tm df cs k s n v;simp only[code,Option.some.injEq,Prod.mk.injEq]at a;obtain⟨rfl,rfl,rfl,rfl⟩:=a;exact⟨ρ,w,tm,df,cs,Ren.le_refl _,s,n,.refl _ _,.one VT⟩
 |region id bq bf=>
  intro r o st j l h f a e ρ w tm df cs k s n v;simp only[code]at a;refine GI bb aP be aD aK (fun bi=>?_) a k s n v;subst bi;exact e
 |seq af b O ah=>
  intro r o st j l h f a e ρ w tm df cs k s n v;simp only[codeOk,aeu]at e;simp only[code]at a;cases S:code C rc fc af r o st with
  |none=>rw[S]at a;cases a
  |some aE=>
   obtain⟨i,X,aa,Y⟩:=aE;have t:=O _ _ _ _ _ _ _ S e.1 ρ w tm df cs (.code b::k) s n v;have t:=t.of_steps (Ren.le_refl _) (.refl _ _) (.one (aay (P:=C.P) (x:=af) (y:=b) (k:=k)));rw[S]at a;by_cases A:i=.norm
   ·subst A;obtain⟨x,w1,Q,T,M,m,E,I,H,L⟩:=t;exact .of_steps m H L (ah _ _ _ _ _ _ _ a e.2 x w1 Q T M k E I ((v.mono m).step H))
   ·have R:some (i,X,aa,Y)=some (j,l,h,f):=by
     cases i with
     |norm=>exact absurd rfl A
     |_=>exact a
    cases R;exact il.pass (k':=.code b::k) A (fun _ _=>Z) t
 |cond c af b O ah=>
  intro r o st j l h f a e ρ w tm df cs k s n v;simp only[codeOk,aeu]at e;simp only[code]at a;split at a
  ·rename_i B;have W:=pI n.tm c _ B;generalize u:D0 tm c=ad at W;cases W;exact .of_steps (Ren.le_refl _) (.refl _ _) (.one (NU u)) (O _ _ _ _ _ _ _ a e.1 ρ w tm df cs k s n v)
  ·rename_i B;have W:=pI n.tm c _ B;generalize u:D0 tm c=ad at W;cases W;exact .of_steps (Ren.le_refl _) (.refl _ _) (.one (NU u)) (ah _ _ _ _ _ _ _ a e.2 ρ w tm df cs k s n v)
  ·cases a
 |block id af O=>
  intro r o st j l h f a e ρ w tm df cs k s n v;simp only[codeOk]at e;simp only[code]at a;cases S:code C rc fc af r o st with
  |none=>rw[S]at a;cases a
  |some aE=>
   obtain⟨i,X,aa,Y⟩:=aE;have t:=O _ _ _ _ _ _ _ S e ρ w tm df cs (.inBlock id::k) s n v;have t:=t.of_steps (Ren.le_refl _) (.refl _ _) (.one (SE (P:=C.P) (id:=id) (c:=af) (k:=k)));rw[S]at a;cases i with
   |norm=>
    cases a;obtain⟨x,w1,Q,T,M,m,E,I,H,L⟩:=t;exact⟨x,w1,Q,T,M,m,E,I,H,L.trans (.one LF)⟩
   |exit au=>
    simp only at a;split at a
    ·rename_i hid;have hid:=Nat.eq_of_beq_eq_true hid;subst hid;cases a;obtain⟨x,w1,Q,T,M,m,E,I,H,bj,L,ba⟩:=t;have aM:exitTo au bj=some k:=by rw[ba];simp[exitTo]
     exact⟨x,w1,Q,T,M,m,E,I,H,L.trans (.one (VU aM))⟩
    ·rename_i hid;cases a;refine t.pass (by intro aB;cases aB) fun bm am=>?_;cases am;have:=Nat.ne_of_beq_eq_false hid;simp only[exitTo];rw[if_neg (by simpa using fun aB:id=au=>this aB.symm)]
   |ret=>cases a;exact t.pass (by intro aB;cases aB) fun bm am=>by cases am
   |panic bp=>cases a;exact t.pass (by intro aB;cases aB) fun bm am=>by cases am
 |loop af O=>
  intro r o st j l h f a e ρ w tm df cs k s n v;simp only[codeOk]at e;simp only[code]at a;cases S:code C rc fc af r o st with
  |none=>rw[S]at a;cases a
  |some aE=>
   obtain⟨i,X,aa,Y⟩:=aE;have t:=O _ _ _ _ _ _ _ S e ρ w tm df cs (.inLoop af::k) s n v;have t:=t.of_steps (Ren.le_refl _) (.refl _ _) (.one (NV (P:=C.P) (c:=af) (k:=k)));rw[S]at a;by_cases A:i=.norm
   ·subst A;obtain⟨x,w1,Q,T,M,m,E,I,H,L⟩:=t;exact .of_steps m H L (LN ((aK G).code _ _ _ _ _ _ _ _ _ a e x w1 b Q T M k E I ((v.mono m).step H)))
   ·have R:some (i,X,aa,Y)=some (j,l,h,f):=by
     cases i with
     |norm=>exact absurd rfl A
     |_=>exact a
    cases R;exact il.pass (k':=.inLoop af::k) A (fun _ _=>Z) t
 |rangeFunc bk aR aN bg _ _=>
  intro r o st j l h f a e ρ w tm df cs k s n v;simp only[codeOk,aeu]at e;simp only[code]at a;split at a
  ·rename_i br first U bh X Y aX aG
   split at a
   ·cases a
   ·rename_i bs aW;have W:=pI n.tm bk _ aX;generalize u:D0 tm bk=ad at W;cases W with
    |@func _ _ y _ K aj ap=>
    obtain⟨x,w1,ax,mark,m,E,aU,aH,I⟩:=zY (C:=C) e aG s n;have ai:=GJ (P:=C.P) (df:=df) (k:=k) (cs:=cs) u aH (rj aP aW _);have aq:cT x (first.toList++[.func (.yield bh) #[] #[]]++U.toList) (y++ #[Value.func (.yield ax.b) #[] #[]]++K).toList:=by
     simp only[aev];exact((aj.mono m).append (.cons (.yield aU .nil .nil) .nil)).append (ap.mono m)
    cases B:rc.call br (first.toList++[.func (.yield bh) #[] #[]]++U.toList) false .none Y with
    |none=>rw[B]at a;cases a
    |some aE=>
     obtain⟨bc,bl,aT⟩:=aE;rw[B]at a;obtain⟨az,aL,F,bo,d,ag,aJ,z,ay,an,ao,fn,ak,J⟩:=(aK G).call _ _ _ _ _ _ _ _ B x w1 (y++ #[Value.func (.yield ax.b) #[] #[]]++K) (eg b tm (mark++df) (.inRangeFunc ax.b::k)::cs) E aq trivial;obtain⟨_,rfl⟩:=nj aJ;have av:=I.mono d;cases bc with
     |ret bp=>
      simp only at a J;obtain⟨g,ad,J,_⟩:=J;have p:=step_leave_returned (P:=C.P) (c:=eg b tm (mark++df) (.inRangeFunc ax.b::k)) (cs:=cs) (w:=aL) (fr:=F) ⟨g,an,ao,fn,by rw[ay];exact ak,J⟩;have aI:(eg b tm (mark++df) (.inRangeFunc ax.b::k)).finish ad=eg b tm (mark++df) (.endRangeFunc ax.b::k):=rfl;rw[aI]at p;split at a
      ·rename_i ae ar;have aw:=d _ _ aU;obtain⟨aC,aO,V⟩:=ag.obj _ _ _ aw ar;have aQ:ae.state≠.busy->∃aV,Gl ae.pending=some aV/\(aV,X,o,aT.put bh (.loop {ae with state:=.exhausted}))=(j,l,h,f):=by
        intro D;split at a
        ·rename_i aY;exact absurd aY D
        ·split at a
         ·rename_i aV q;cases a;exact⟨_,q,rfl⟩
         ·cases a
       have D:ae.state≠.busy:=by
        intro R;rw[R]at a;cases a
       obtain⟨aV,q,R⟩:=aQ D;cases R;have aF:=run_endLoop (P:=C.P) aO (by rw[V.state];exact D);have aS:=ag.yu (o2:=.loop {ae with state:=.exhausted}) (co:=.loop {aC with state:=.exhausted}) aw ar rfl rfl ⟨_,rfl,rfl,V.pending,V.fn,V.tm,V.params,V.assign,V.body,V.defers,V.ok⟩;have aA:=I7 (P:=C.P) (b:=b) (tm:=tm) (df:=mark++df) (k:=k) (cs:=cs) aF;have N:=Steps.head ai (z.trans (.head p (.one aA)));refine⟨az,_,tm,mark++df,cs,m.trans d,aS,av,.refl _ _,?_⟩;have ac:=V.pending;cases ab:ae.pending with
       |none=>
        rw[ab]at ac q;cases q;have R:(Option.map Item.code aC.pending).toList++k=k:=by rw[ac];rfl
        rw[R]at N;exact N
       |some bn=>
        rw[ab]at ac q;have R:(Option.map Item.code aC.pending).toList++k=.code bn::k:=by rw[ac];rfl
        rw[R]at N;cases bn with
        |ret=>cases q;exact⟨k,N⟩
        |exit id=>cases q;exact⟨k,N,rfl⟩
        |_=>cases q
      ·cases a
     |eH bp=>
      simp only at a J;cases a;obtain⟨ad,g,W⟩:=J;have p:=step_leave_panicked (P:=C.P) (c:=eg b tm (mark++df) (.inRangeFunc ax.b::k)) (cs:=cs) (w:=aL) (fr:=F) ⟨g,an,fn,by rw[ay];exact ak⟩;exact⟨az,aL,tm,mark++df,cs,m.trans d,ag,av,.refl _ _,.inRangeFunc ax.b::k,ad,W,Steps.head ai (z.trans (.one p))⟩
  ·cases a
 |exit id=>
  intro r o st j l h f a e ρ w tm df cs k s n v;simp only[code,Option.some.injEq,Prod.mk.injEq]at a;obtain⟨rfl,rfl,rfl,rfl⟩:=a;exact⟨ρ,w,tm,df,cs,Ren.le_refl _,s,n,.refl _ _,k,.refl _ _,Z⟩
 |ret=>
  intro r o st j l h f a e ρ w tm df cs k s n v;simp only[code,Option.some.injEq,Prod.mk.injEq]at a;obtain⟨rfl,rfl,rfl,rfl⟩:=a;exact⟨ρ,w,tm,df,cs,Ren.le_refl _,s,n,.refl _ _,k,.refl _ _⟩
 |scope _ _=>intro r o st j l h f a;cases a
 |label _=>intro r o st j l h f a;cases a
 |goto _=>intro r o st j l h f a;cases a
 |refuse _=>intro r o st j l h f a;cases a
end
def I8(ρ:Ren)(c:Mode)(b:FrameMode):Prop:=
 match c with
 |.returning=>b=.returning
 |.panicking v=>∃a,b=.panicking [{v:=a,recovered:=false}]/\cX ρ v a
theorem I8.mono{ρ a:Ren}(b:ρ.le a){f:Mode}{c:FrameMode}(h:I8 ρ f c):I8 a f c:=by
 cases f with
 |returning=>exact h
 |panicking m=>obtain⟨e,l,k⟩:=h;exact⟨e,l,k.mono b⟩
def PE(a:Mode):dW:=match a with|.returning=>.none|.panicking b=>.gg b
variable{p:Nat} {j:List Deferred} {g:Value}
section
variable{P:Program} {F:Frame} {cs:List Frame} {w w1:World}
theorem NW{ρ:Ren}{e:Mode}{b:FrameMode}(c:I8 ρ e b):b≠.run:=by
 cases e with
 |returning=>intro a;rw[a]at c;cases c
 |panicking h=>obtain⟨f,a,_⟩:=c;rw[a];intro a;cases a
theorem VX{args:Array Value}{b:List Deferred}(f:F.mode≠.run)(c:F.defers={target:=.collected p,args}::j)(e:(Instr.takeDeferred p).run P w=.ok b w1):
  step P (lone F cs w)=.next (lone {F with defers:=b++j} cs w1):=by
 refine step_lone_go ?_;cases a:F.mode with
 |run=>exact absurd a f
 |returning=>simp[stepG,a,unwind,c,Sem.runT_eq,e]
 |panicking h=>simp[stepG,a,unwind,c,Sem.runT_eq,e]
theorem I9{f:FuncId}{args a:Array Value}(h:F.mode≠.run)(c:F.defers={target:=.fn (.func f) a,args}::j)(k:(callFunc f (args++a)).run P w=.ok (.enter f (args++a)) w1):
  step P (lone F cs w)=.next (lone (Frame.enter P f (args++a) .deferred) ({F with defers:=j}::cs) w1):=by
 have e:(invoke (.fn (.func f) a) args).run P w=.ok (.enter f (args++a)) w1:=k;refine step_lone_go ?_;cases b:F.mode with
 |run=>exact absurd b h
 |returning=>simp[stepG,b,unwind,c,callDeferred,Sem.runT_eq,e]
 |panicking l=>simp[stepG,b,unwind,c,callDeferred,Sem.runT_eq,e]
def Ja(c:Frame):Frame:=
 match c.mode with
 |.panicking ({recovered:=true,.. }::a)=>
  match a.dropWhile (!·.goexit)with
  |[]=>{c with mode:=.returning}
  |rest=>{c with mode:=.panicking rest}
 |_=>c
theorem qA{c:Frame}{fn:Func}(b:F.mode=.returning)(a:F.defers=[])(e:F.kind=.deferred)(f:P.funcs[F.fn]?=some fn)(h:(results fn F.tmps).run P w=.ok g w):
  step P (lone F (c::cs) w)=.next (lone (Ja c) cs w):=by
 refine step_lone_go ?_;simp[stepG,b,unwind,a,f,Sem.runT_eq,h,doReturn,e,Ja];rfl
end
section
variable{C:dR} {w0:World} {N0:Nat} {G:Nat->Prop} {rc:Rec} {b:FB}
theorem yv(aj:Fm C)(am:wH C w0 N0 G rc)(tm:Array Value)(c:List Item)(cs:List Frame):∀(O:List Deferred) (m:Mode) (st:St) (d:Mode) (v:St),kB C rc O m st=some (d,v)->
  ∀(ρ:Ren) (w:World) (df:List Deferred) (k:FrameMode),di w0 N0 G ρ st w->Cz ρ O df->I8 ρ m k->
  ∃f H n,ρ.le f/\di w0 N0 G f v H/\I8 f d n/\Steps C.P (lone {eg b tm df c with mode:=k} cs w) (lone {eg b tm [] c with mode:=n} cs H):=by
 intro O;induction O with
 |nil=>
  intro m st d v J ρ w df k Q U l;simp only[kB,Option.some.injEq,Prod.mk.injEq]at J;obtain⟨rfl,rfl⟩:=J;cases df with
  |nil=>exact⟨ρ,w,k,Ren.le_refl _,Q,l,.refl _ _⟩
  |cons ap df=>exact U.elim
 |cons ap O af=>
  intro m st d v J ρ w df k Q U l;cases df with
  |nil=>exact U.elim
  |cons ak df=>
  obtain⟨j,g⟩:=U;have o:=j.target;obtain⟨aC,args⟩:=ap;obtain⟨B,e⟩:=ak;simp only[kB]at J;split at J
  ·rename_i ah;split at J
   ·rename_i D;cases B with
    |collected au=>
     obtain⟨ar,ac,rfl⟩:=o;have q:w.heap[ar.b]?=some (.deferred (some [])):=Q.obj _ _ _ ac D;have N:=VX (P:=C.P) (F:={eg b tm ({target:=.collected ar.b,args:=e}::df) c with mode:=k}) (cs:=cs) (NW l) rfl (run_takeDeferred q);have ae:=Q.yu (o2:=.eI true) (co:=.deferred none) ac D rfl rfl rfl;obtain⟨f,H,n,T,K,L,h⟩:=af _ _ _ _ J ρ _ df k ae g l;exact⟨f,H,n,T,K,L,.head N h⟩
    |_=>exact o.elim
   ·cases J
  ·rename_i av r;split at J
   ·rename_i aA aB ai ao ag an;cases B with
    |fn aw a=>
     cases aw with
     |func ay=>
      obtain⟨rfl,X⟩:=o;have Y:cT ρ (args.toList++r.toList) (e++a).toList:=by
       simp only[aev];exact j.args.append X
      have N:=I9 (P:=C.P) (F:={eg b tm ({target:=.fn (.func av) a,args:=e}::df) c with mode:=k}) (cs:=cs) (NW l) rfl (rj (w:=w) aj ag _);have ad:uv ρ true (PE m) ({eg b tm df c with mode:=k}::cs):=by
       cases m with
       |returning=>exact⟨_,_,rfl,l⟩
       |panicking aq=>obtain⟨V,az,ah⟩:=l;exact⟨_,_,V,rfl,az,ah⟩
      obtain⟨i,z,F,A,s,aa,u,h,p,S,t,fn,M,x,V,R,_⟩:=am.call _ _ _ _ _ _ _ _ an ρ w (e++a) ({eg b tm df c with mode:=k}::cs) Q Y ad;have W:∃E,I8 i (match m,ai with|.panicking _,.rD=>.returning|m,_=>m) E/\step C.P (lone F A z)=.next (lone {eg b tm df c with mode:=E} cs z):=by
       rcases u with⟨rfl,rfl⟩|⟨aq,al,rfl,rfl⟩
       ·refine⟨k,?_,?_⟩
        ·cases m<;>exact l.mono s
        ·rw[qA x S t (by rw[p];exact M) R];cases m with
         |returning=>
          cases l;rfl
         |panicking aq=>
          obtain⟨V,rfl,ah⟩:=l;rfl
       ·cases m with
        |returning=>cases al
        |panicking ax=>
         obtain⟨V,rfl,ah⟩:=l;refine⟨.returning,Z,?_⟩;simp only[yr];rw[qA x S t (by rw[p];exact M) R];rfl
      obtain⟨E,ab,y⟩:=W;obtain⟨f,H,n,T,K,L,I⟩:=af _ _ _ _ J i z df E aa (g.mono s) ab;exact⟨f,H,n,s.trans T,K,L,.head N (h.trans (.head y I))⟩
     |_=>exact o.elim
    |_=>exact o.elim
   ·cases J
  ·cases J
end
variable{d:List Value} {i:Array Value} {z:CR}
section
variable{C:dR} {w0:World} {N0:Nat} {G:Nat->Prop} {rc:Rec}
theorem GK(o:nQ C){ρ:Ren}{st:St}{w:World}{t:Tr Value}{tm:Array Value}(r:di w0 N0 G ρ st w)(k:gB ρ p t tm){m:ResultVar}(h:Cq C t st m=some g):
  ∃a,((match m with|.tmp t=>pure (tm.getD t undef)|.cell n t=>do loadVar t (<-asAddr (tm.getD n undef))):Sem Value).run C.P w=.ok a w/\cX ρ g a:=by
 cases m with
 |tmp J=>exact⟨_,rfl,k.get h⟩
 |cell n x=>
  simp only[Cq]at h;split at h
  ·rename_i K v;split at h
   ·rename_i L s c;cases h;have f:=k.get v;obtain⟨a,l,E,_⟩:=IF o r f c;refine⟨a,?_,E⟩;unfold ye at c;split at c
    ·rename_i H b I _;obtain⟨M,F,e⟩:=qx f;rw[e]at l;show(do loadVar x (<-asAddr (tm.getD n undef)):Sem Value).run C.P w=.ok a w;rw[e];exact l
    ·cases c
   ·cases h
  ·cases h
theorem Eh(n:nQ C){ρ:Ren}{st:St}{w:World}{t:Tr Value}{tm:Array Value}(r:di w0 N0 G ρ st w)(m:gB ρ p t tm):∀{h:List ResultVar} {b:List Value},qt C t st h=some b->
  ∃a,(h.mapM (fun E=>(match E with|.tmp t=>pure (tm.getD t undef)|.cell F t=>do loadVar t (<-asAddr (tm.getD F undef)):Sem Value))).run C.P w=.ok a w/\cT ρ b a:=by
 intro h;induction h with
 |nil=>intro b c;cases c;exact⟨[],rfl,.nil⟩
 |cons E h v=>
  intro b c;simp only[qt]at c;split at c
  ·rename_i H vs1 o l;cases c;obtain⟨k,s,x⟩:=GK n r m o;obtain⟨a,e,f⟩:=v l;refine⟨k::a,?_,.cons x f⟩;rw[List.mapM_cons,cb _ s,cb _ e];rfl
  ·cases c
theorem Ei(k:nQ C){ρ:Ren}{st:St}{w:World}{t:Tr Value}{tm:Array Value}(h:di w0 N0 G ρ st w)(m:gB ρ p t tm){fn:Func}(f:qt C t st fn.results.toList=some d):
  ∃c,(results fn tm).run C.P w=.ok c w/\cX ρ (vD d) c:=by
 obtain⟨b,l,a⟩:=Eh k h m f;have e:(fn.results.mapM (fun o=>(match o with|.tmp t=>pure (tm.getD t undef)|.cell s t=>do loadVar t (<-asAddr (tm.getD s undef)):Sem Value))).run C.P w=.ok b.toArray w:=by
  rw[Array.mapM_eq_mapM_toList];show(Functor.map List.toArray _:Sem (Array Value)).run C.P w=_;rw[map_eq_pure_bind,cb _ l];rfl
 refine⟨if f:b.toArray.size=1 then b.toArray[0]else .tuple b.toArray,?_,?_⟩
 ·unfold results;exact(cb _ e).trans Z
 ·have n:=a.length
  match d,b,a with
  |[],[],_=>exact .tuple .nil
  |[v],[c],.cons f _=>exact f
  |v::E::o,c::x::r,a=>
   rw[dif_neg sm];exact .tuple a
  |[],_::_,a=>cases a
  |_::_,[],a=>cases a
  |[_],_::_::_,a=>cases a with|cons _ t=>cases t
  |_::_::_,[_],a=>cases a with|cons _ t=>cases t
theorem PF(o:Fm C){ρ:Ren}{f:FuncId}{c:FI}(h:C.ff.get f=some c)(b:Bool)(n:d.length<=c.nt)(w:cT ρ d i.toList):
  ∃tm,Frame.enter C.P f i (kindOf b)=eg ⟨f,kindOf b,none⟩ tm [] [.code c.body]/\lz ρ ⟨f,c.nt,none,b⟩ ⟨eE 0 d .nil,[]⟩ ⟨f,kindOf b,none⟩ tm []:=by
 obtain⟨fn,m,l,r,_,_⟩:=o.fn _ _ h;have e:=w.length;refine⟨i++Array.replicate (c.nt-i.size) undef,?_,Z,Z,Z,⟨?_,fun t E s=>?_⟩,tv⟩
 ·simp[Frame.enter,eg,m,l,r]
 ·have:i.size=d.length:=by rw[e];simp
  simp;omega
 ·have a:(eE 0 d .nil).get t=some E:=s;rw[qw]at a;split at a
  ·rename_i F;have v:i.size=d.length:=by rw[e];simp
   obtain⟨k,G,x⟩:=w.get (i:=t) (by simpa using a);refine⟨k,?_,x⟩;rw[Array.getElem?_append_left om];simpa using G
  ·rw[pF]at a;cases a
theorem CE(ab:nQ C)(T:Fm C)(af:nX C)(g:C.P.follows .mixedOrders=true)(ak:∀f x,C.ff.get f=some x->codeOk x.body=true)(u:∀G,wH C w0 N0 G rc){f:FuncId}{a:Bool}{st L:St} 
  (r:yg C rc f d a q st=some (z,y,L)) {ρ:Ren} {w:World} {cs:List Frame} (ag:di w0 N0 G ρ st w) (X:cT ρ d i.toList) (ah:uv ρ a q cs):BT C w0 N0 G ρ f i a q z y L cs w:=by
 unfold yg at r;split at r
 ·cases r
 ·rename_i x V;split at r
  ·cases r
  ·rename_i j;obtain⟨tm,O,D⟩:=PF T V a (Nat.le_of_ble_eq_true j) X;obtain⟨fn,R,_,_,W,_⟩:=T.fn _ _ V;have P:∀{aj:Mode} {I:Fr} {M:dW} {J:St} {c:Ren} {w1:World} {n:Array Value} {k:List Deferred} {e:List Frame} {E:List Item} {m':FrameMode},finish C rc x aj I M J=some (z,y,L)->ρ.le c->di w0 N0 G c J w1->
     lz c ⟨f,x.nt,none,a⟩ I ⟨f,kindOf a,none⟩ n k->pH q M cs e->I8 c aj m'->
     Steps C.P (lone (eg ⟨f,kindOf a,none⟩ tm [] [.code x.body]) cs w) (lone {eg ⟨f,kindOf a,none⟩ n k E with mode:=m'} e w1)->BT C w0 N0 G ρ f i a q z y L cs w:=by
    intro aj I M J c w1 n k e E m' r s m h o ac l;unfold finish at r;split at r
    ·cases r
    ·rename_i v aa p;cases r;obtain⟨Q,A,ae,t,K,S,H⟩:=yv (b:=⟨f,kindOf a,none⟩) T (u G) n E e _ _ _ _ _ p c w1 k m' m h.df ac;obtain⟨N,rfl,U⟩:=S;exact⟨Q,A,_,e,s.trans t,K,o,by rw[O];exact l.trans H,Z,Z,Z,fn,R,N,Z,U⟩
    ·rename_i aa p;split at r
     ·rename_i an Y;cases r;obtain⟨Q,A,ae,t,K,S,H⟩:=yv (b:=⟨f,kindOf a,none⟩) T (u G) n E e _ _ _ _ _ p c w1 k m' m h.df ac;cases S;rw[<-W]at Y;obtain⟨N,ai,U⟩:=Ei ab K (h.tm.mono t) Y;exact⟨Q,A,_,e,s.trans t,K,o,by rw[O];exact l.trans H,Z,Z,Z,fn,R,Z,N,ai,U⟩
     ·cases r
   cases B:code C rc ⟨f,x.nt,none,a⟩ x.body ⟨eE 0 d .nil,[]⟩ q st with
   |none=>rw[B]at r;cases r
   |some al=>
    obtain⟨am,I,M,J⟩:=al;rw[B]at r;obtain⟨c,w1,n,k,e,s,m,h,o,F⟩:=sp (b:=⟨f,kindOf a,none⟩) ab T af g u x.body _ _ _ _ _ _ _ B (ak _ _ V) ρ w tm [] cs [] ag D ah;cases am with
    |norm=>exact P r s m h o (m':=.returning) rfl (Steps.trans F (.one (aaA rfl)))
    |ret=>
     obtain⟨ad,l⟩:=F;exact P r s m h o (m':=.returning) Z (Steps.trans l (.one (aaz Z)))
    |panic v=>
     obtain⟨ad,N,U,l⟩:=F;exact P r s m h o (m':=.panicking [{v:=N,recovered:=false}]) ⟨N,Z,U⟩ l
    |exit id=>cases r
theorem Ej{ρ:Ren}:∀{c:List Tmp} {b:List Value} {n f:Tr Value} {a:List Value} {tm:Array Value},nh c b p n=some f->cT ρ b a->gB ρ p n tm->
  c.length=a.length/\gB ρ p f ((c.zip a).foldl (fun l (C:Tmp×Value)=>l.setIfInBounds C.1 C.2) tm):=by
 intro c;induction c with
 |nil=>
  intro b n f a tm h e k;cases b with
  |nil=>cases e;cases h;exact⟨rfl,k⟩
  |cons x b=>cases h
 |cons E c v=>
  intro b n f a tm h e k;cases b with
  |nil=>cases h
  |cons x b=>
   cases e with
   |@cons _ G _ a e r=>
   simp only[nh]at h;split at h
   ·rename_i o;have m:=dy (fr:=⟨n,[]⟩) (nt:=p) (dst:=some E) (fr':=⟨n.set E x,[]⟩) k e (by simp only[gV,o]);obtain⟨t,s⟩:=v h r m.1;exact⟨by simp[t],s⟩
   ·cases h
end
section
variable{P:Program} {b:FB} {tm:Array Value} {df:List Deferred} {k:List Item} {cs:List Frame} {w w1:World} {c:Frame}
theorem Ek{l:Nat}(a:b.round=some l)(c:(Instr.beginRound l).run P w=.ok () w1):
  step P (lone (eg b tm df (.beginRound::k)) cs w)=.next (lone (eg b tm df k) cs w1):=
 step_lone_go (by simp[stepG,stepG.exec,stepG.apply,eg,a,Sem.runT_eq,c,Result.andThen,Frame.finish])
theorem GL{l:Nat}(e:b.round=some l)(a:b.kind=.normal)(f:(Instr.endRound l none).run P w=.ok g w1):
  step P (lone (eg b tm df []) (c::cs) w)=.next (lone (c.finish g) cs w1):=
 step_lone_go (by simp[stepG,stepG.exec,eg,e,a,Sem.runT_eq,f,doReturn])
theorem GM{l:Nat}(e:b.round=some l)(a:b.kind=.normal)(f:(Instr.endRound l (some .ret)).run P w=.ok g w1):
  step P (lone (eg b tm df (.code .ret::k)) (c::cs) w)=.next (lone (c.finish g) cs w1):=
 step_lone_go (by simp[stepG,stepG.exec,eg,e,a,Sem.runT_eq,f,doReturn])
theorem El{l id:Nat}(f:b.round=some l)(a:b.kind=.normal)(h:exitTo id k=none)(e:(Instr.endRound l (some (.exit id))).run P w=.ok g w1):
  step P (lone (eg b tm df (.code (.exit id)::k)) (c::cs) w)=.next (lone (c.finish g) cs w1):=
 step_lone_go (by simp[stepG,stepG.exec,eg,f,a,h,Sem.runT_eq,e,doReturn])
end
variable{u:ql}
section
variable{C:dR} {w0:World} {N0:Nat} {G:Nat->Prop} {rc:Rec}
theorem Jb(av:nQ C)(ae:Fm C)(ax:nX C)(U:C.P.follows .mixedOrders=true)(aL:∀G,wH C w0 N0 G rc){l:Nat}{st y:St} 
  (f:ug C rc l d st=some (z,y)) {ρ:Ren} {w:World} {N:Loc} (aF:di w0 N0 G ρ st w) (ah:ρ l=some N) (j:cT ρ d i.toList):IU C w0 N0 G ρ N i z y w:=by
 unfold ug at f;split at f
 ·rename_i m ar;split at f
  ·cases f
  ·cases f
  ·rename_i bb tm aG af;obtain⟨a,aq,K⟩:=aF.obj _ _ _ ah ar;obtain⟨fn,ag,_,_,_,_⟩:=ae.fn _ _ aG;obtain⟨O,X⟩:=Ej af j K.tm;rw[<-K.params]at O X;have ap:i.size=a.params.size:=by simpa using O.symm
   have aO:=run_yield (P:=C.P) aq ap;refine⟨_,_,_,_,aO,fun c cs=>?_⟩;have p:(a.params.zip i).foldl (fun e (E:Tmp×Value)=>e.setIfInBounds E.1 E.2) a.tmps=(a.params.toList.zip i.toList).foldl (fun e (E:Tmp×Value)=>e.setIfInBounds E.1 E.2) a.tmps:=by
    rw[<-Array.foldl_toList,Array.toList_zip]
   rw[<-p]at X;have W:Frame.round N.b a.fn ((a.params.zip i).foldl (fun e (E:Tmp×Value)=>e.setIfInBounds E.1 E.2) a.tmps) a.assign a.body .normal=
     eg ⟨a.fn,.normal,some N.b⟩ ((a.params.zip i).foldl (fun e (E:Tmp×Value)=>e.setIfInBounds E.1 E.2) a.tmps) [] (.code m.assign:: [.beginRound,.code m.body]):=by
    rw[<-K.assign,<-K.body];rfl
   have aJ:lz ρ ⟨m.fn,m.nt,some l,false⟩ ⟨tm,[]⟩ ⟨a.fn,.normal,some N.b⟩ ((a.params.zip i).foldl (fun e (E:Tmp×Value)=>e.setIfInBounds E.1 E.2) a.tmps) []:=⟨K.fn,⟨N,ah,rfl⟩,rfl,X,tv⟩;have aC:Frame.round N.b a.fn ((a.params.zip i).foldl (fun e (bf,ba)=>e.setIfInBounds bf ba) a.tmps) a.assign a.body .normal=eg ⟨a.fn,.normal,some N.b⟩ ((a.params.zip i).foldl (fun e (E:Tmp×Value)=>e.setIfInBounds E.1 E.2) a.tmps) [] (.code m.assign:: [.beginRound,.code m.body]):=W;rw[aC];simp only at f;cases ad:code C rc ⟨m.fn,m.nt,some l,false⟩ m.assign ⟨tm,[]⟩ .none st with
   |none=>rw[ad]at f;cases f
   |some bc=>
    obtain⟨E,aD,aS,aE⟩:=bc;rw[ad]at f;have ay:=sp (b:=⟨a.fn,.normal,some N.b⟩) av ae ax U aL m.assign _ _ _ _ _ _ _ ad K.ok.1 ρ w _ [] (c::cs) [.beginRound,.code m.body] aF aJ trivial;cases E with
    |exit id=>cases f
    |ret=>cases f
    |panic be=>cases f
    |norm=>
     obtain⟨an,w1,D,aa,aW,I,q,aK,az,ac⟩:=ay;obtain⟨_,rfl⟩:=nj az;simp only at f;split at f
     ·rename_i ab Y;split at f
      ·rename_i Q;have S:=I _ _ ah;obtain⟨ao,ai,n⟩:=q.obj _ _ _ S Y;have aw:=run_beginRound (P:=C.P) ai (by rw[n.state];exact Q);have am:=q.yu (o2:=.loop {ab with state:=.busy}) (co:=.loop {ao with state:=.busy}) S Y rfl rfl ⟨_,rfl,rfl,n.pending,n.fn,n.tm,n.params,n.assign,n.body,n.defers,n.ok⟩;have x:=Steps.trans ac (.one (Ek (P:=C.P) (b:=⟨a.fn,.normal,some N.b⟩) (tm:=D) (df:=aa) (k:=[.code m.body]) (cs:=c::cs) rfl aw));cases T:code C rc ⟨m.fn,m.nt,some l,false⟩ m.body aD .none (aE.put l (.loop {ab with state:=.busy}))with
       |none=>rw[T]at f;cases f
       |some aR=>
        obtain⟨aM,aU,aV,B⟩:=aR;rw[T]at f;obtain⟨L,au,aY,u,aX,t,V,aA,ak,s⟩:=sp (b:=⟨a.fn,.normal,some N.b⟩) av ae ax U aL m.body _ _ _ _ _ _ _ T K.ok.2 an _ D aa (c::cs) [] am aK trivial;obtain⟨_,rfl⟩:=nj ak;have A:=t _ _ S;have R:∀(r:Option Code) (o:Fg),B.get l=some (.loop o)->∃J,(Instr.endRound N.b r).run C.P au=.ok (.bool r.isNone) J/\di w0 N0 G L (B.put l (.loop {o with state:=if r.isNone then .ready else .done,pending:=r})) J:=by
         intro r o h;obtain⟨aT,aj,v⟩:=V.obj _ _ _ A h;exact⟨_,run_endRound r aj,V.yu A h Z Z ⟨_,Z,Z,Z,v.fn,v.tm,v.params,v.assign,v.body,v.defers,v.ok⟩⟩
        cases aM with
        |norm=>
         simp only at f;split at f
         ·rename_i o h M;cases f;obtain⟨J,g,F⟩:=R none o h;exact⟨L,J,I.trans t,F,.bool true,.bool true,(x.trans s).trans (.one (GL Z Z g))⟩
         ·cases f
        |ret=>
         obtain⟨aH,H⟩:=s;simp only at f;split at f
         ·rename_i o h M;cases f;obtain⟨J,g,F⟩:=R (some .ret) o h;exact⟨L,J,I.trans t,F,.bool false,.bool false,(x.trans H).trans (.one (GM Z Z g))⟩
         ·cases f
        |exit id=>
         obtain⟨aH,H,aN⟩:=s;simp only at f;split at f
         ·rename_i o h M;cases f;obtain⟨J,g,F⟩:=R (some (.exit id)) o h;exact⟨L,J,I.trans t,F,.bool false,.bool false,(x.trans H).trans (.one (El Z Z aN g))⟩
         ·cases f
        |panic be=>
         obtain⟨aH,aQ,aP,H⟩:=s;simp only at f;split at f
         ·rename_i M;cases f;have aI:=aA.df;rw[M]at aI;have aB:u=[]:=by
           cases u with
           |nil=>rfl
           |cons _ _=>exact aI.elim
          subst aB;refine⟨L,au,I.trans t,V,aQ,aP,(x.trans H).trans (.one (step_leave_panicked ⟨Z,Z,fn,?_⟩))⟩;show C.P.funcs[a.fn]?=some fn;rw[K.fn];exact ag
         ·cases f
      ·cases f
     ·cases f
 ·cases f
def Jc:Value->Bool
 |.tuple ⟨a⟩=>a.all flat
 |v=>flat v
def CF(C:dR)(w0:World)(N0:Nat)(e:ql):Prop:=
 ∀h b f,e h b=some f->(Jc f=true/\∀(ρ:Ren) (a:Array Value) (w:World),cT ρ b a.toList->Below N0 w0 w->N0<=w.heap.size->
  Calls C.P h a w fun m c=>m=.returned f/\Below w.heap.size w c)∨
  ∃l n,f=.agg ⟨[l,.iface n .nilIface]⟩/\flat l=true/\∀(ρ:Ren) (a:Array Value) (w:World),cT ρ b a.toList->Below N0 w0 w->N0<=w.heap.size->
   Calls C.P h a w fun m c=>∃k,m=.returned (.tuple ⟨[l,.iface n (.pointer (some ⟨k,0,none⟩))]⟩)/\w.heap.size<=k/\k<c.heap.size/\Below w.heap.size w c
theorem PG(a:Jc g=true)(ρ:Ren):cX ρ g g:=by
 unfold Jc at a;split at a
 ·exact .tuple (jI a ρ)
 ·exact uo a ρ
theorem GN(b:Jc g=true)(a:dW)(st:St):BP g a st=some (.ret g,a,st):=by
 unfold BP;split
 ·simp[Jc,flat]at b
 ·rfl
theorem LO(j:CF C w0 N0 u){f:FuncId}(aa:u f d=some g){ρ:Ren}{st:St}{w:World}{cs:List Frame}(a:di w0 N0 G ρ st w)(s:cT ρ d i.toList)(P:BP g q st=some (z,y,D)):
  BT C w0 N0 G ρ f i false q z y D cs w:=by
 rcases j f d g aa with⟨t,Q⟩|⟨ac,ab,rfl,t,Q⟩
 ·rw[GN t]at P;cases P;obtain⟨e,I,O,⟨rfl,x⟩,h,m,l,L,M,fn,o,r⟩:=Q ρ i w s a.below a.Fi cs;exact⟨ρ,I,O,cs,Ren.le_refl _,a.Sr x,.refl _ _,h,m,L,M,fn,by rw[<-m];exact o,l,g,r,PG t ρ⟩
 ·cases P;obtain⟨e,I,O,⟨N,rfl,A,S,x⟩,h,m,l,L,M,fn,o,r⟩:=Q ρ i w s a.below a.Fi cs;have F:=a.Sr x;have K:ρ.le (fun b=>if b=st.n then some ⟨N,0,1,1⟩else ρ b):=fun b H e=>by
   have:=(a.xT b H e).1;show(if b=st.n then _ else _)=_;rw[if_neg om];exact e
  have v:∀b E,st.get b=some E->b≠st.n:=fun b E e=>by have:=a.wf.lt b E e;omega
  have Y:di w0 N0 G (fun b=>if b=st.n then some ⟨N,0,1,1⟩else ρ b) {st with n:=st.n+1} I:=by
   refine⟨⟨fun b E e=>abK (a.wf.lt b E e),fun b c e f B k=>⟨abK (a.wf.dP b c e f B k).1,(a.wf.dP b c e f B k).2⟩,fun f X e=>abK (a.wf.NN f X e)⟩,F.below,F.Fi,fun b x=>?_,fun b H e=>?_,fun b H E e k=>?_,fun b J H W E V e k p T R U=>?_⟩
   ·have:=a.K1 b x;refine⟨?_,abK this.2⟩;show(if b=st.n then _ else _)=_;rw[if_neg om];exact this.1
   ·have e:(if b=st.n then some ⟨N,0,1,1⟩else ρ b)=some H:=e;split at e
    ·cases e
     subst_vars
     exact⟨Nat.lt_succ_self _,Nat.le_trans a.Fi A,S⟩
    ·have:=F.xT b H e;exact⟨abK this.1,this.2⟩
   ·have e:(if b=st.n then some ⟨N,0,1,1⟩else ρ b)=some H:=e;rw[if_neg (v b E k)]at e;exact(F.obj b H E e k).mono K
   ·have e:(if b=st.n then some ⟨N,0,1,1⟩else ρ b)=some H:=e;have k:(if J=st.n then some ⟨N,0,1,1⟩else ρ J)=some W:=k;rw[if_neg (v b E T)]at e;rw[if_neg (v J V R)]at k;exact F.sep b J H W E V e k p T R U
  refine⟨_,I,O,cs,K,Y,.refl _ _,h,m,L,M,fn,by rw[<-m];exact o,l,_,r,.tuple (.cons (uo t _) (.cons (.iface ab (.ptr (l:=⟨N,0,1,1⟩) (by
   show(if st.n=st.n then _ else _)=_;rw[if_pos rfl]))) .nil))⟩
theorem VY(m:nQ C)(n:Fm C)(o:nX C)(e:C.P.follows .mixedOrders=true)(I:∀L J,C.ff.get L=some J->codeOk J.body=true)(Q:CF C w0 N0 u):∀K G,wH C w0 N0 G (jN C u K):=by
 intro K;induction K with
 |zero=>
  intro G;exact⟨fun _ _ _ _ _ _ _ _ _ h=>by(cases h),fun _ _ _ _ _ _ _ _ h=>by(cases h),fun _ _ _ _ _ h=>by(cases h)⟩
 |succ K t=>
  intro G;refine⟨fun fc c S M st V R E v h F ρ w b tm df cs k f P r=>?_,fun L l H M st N E v h ρ w s cs f a r=>?_,fun W l st N v h ρ w T s f O a=>?_⟩
  ·exact sp m n o e t c _ _ _ _ _ _ _ h F ρ w tm df cs k f P r
  ·cases H with
   |true=>exact CE m n o e I t h f a r
   |false=>
    cases x:u L l with
    |none=>
     simp only[jN,x]at h;exact CE m n o e I t h f a r
    |some U=>
     simp only[jN,x]at h;exact LO Q x f a h
  ·exact Jb m n o e t h f O a
theorem rK{ρ:Ren}{a:Value}(c:flat g=true)(b:cX ρ g a):a=g:=by
 cases b<;>first|rfl|cases c
theorem Jd(L:nQ C)(M:Fm C)(N:nX C)(m:C.P.follows .mixedOrders=true)(S:∀f G,C.ff.get f=some G->codeOk G.body=true){w:World}(P:CF C w w.heap.size u) 
  {n:Nat} {f:FuncId} {st:St} (a:(jN C u n).call f d false .none ⟨.nil,0,.nil⟩=some (.ret g,q,st)) (k:d.all flat=true) (R:flat g=true):
  Calls C.P f d.toArray w fun X o=>X=.returned g/\Below w.heap.size w o:=by
 intro cs;have h:∀J,(⟨.nil,0,.nil⟩:St).get J=none:=fun J=>pF J;have O:di w w.heap.size (fun _=>False) (fun _=>none) ⟨.nil,0,.nil⟩ w:=by
  refine⟨⟨fun b U a=>?_,fun b c X f y a=>?_,fun f H a=>?_⟩,.refl _ _,Nat.le_refl _,fun b a=>a.elim,fun b Y a=>by(cases a),fun b Y U a=>by(cases a),fun b i Y p U j a=>by(cases a)⟩
  ·rw[h]at a;cases a
  ·rw[h]at a;cases a
  ·have:(Tr.nil:Tr (List Nat)).get f=some H:=a;rw[pF]at this;cases this
 obtain⟨T,o,F,V,W,t,E,e,l,v,K,fn,r,Q,I,s,x⟩:=(VY L M N m S P n (fun _=>False)).call _ _ _ _ _ _ _ _ a (fun _=>none) w d.toArray cs O (by simpa using jI k _) trivial;obtain⟨_,rfl⟩:=nj E;have:=rK R x;subst this;exact⟨.returned I,o,F,⟨Z,t.below⟩,e,l,Q,v,K,fn,by rw[l];exact r,s⟩
end
def indexByte:cq->Nat->Nat->Int
 |[],_,_=> -1
 |x::b,c,a=>match aet x.toNat c with|true=>.ofNat a|false=>indexByte b c (a+1)
def pK:cq->cq->Bool
 |[],_=>true
 |_,[]=>false
 |a::e,b::c=>match aet a.toNat b.toNat with|true=>pK e c|false=>false
def hQ(a:cq):cq->Bool
 |[]=>match a with|[]=>true|_=>false
 |x::b=>match pK a (x::b)with|true=>true|false=>hQ a b
def yw(a b:cq):Int:=match cE a b with|true=> -1|false=>match l8 a b with|true=>0|false=>1
def countB(c:Nat):cq->Nat
 |[]=>0
 |x::a=>match aet x.toNat c with|true=>countB c a+1|false=>countB c a
theorem Je(b:UInt8){c:Nat}(a:c<256):(b==c.toUInt8)=aet b.toNat c:=by
 rw[abL];simp only[beq_iff_eq,Nat.beq_eq];constructor
 ·rintro rfl;simp[Nat.mod_eq_of_lt a]
 ·intro e;apply UInt8.toNat_inj.1;simp[Nat.mod_eq_of_lt a,e]
theorem Fp(c b:UInt8):(c==b)=aet c.toNat b.toNat:=by
 rw[abL];simp only[beq_iff_eq,Nat.beq_eq];exact⟨fun a=>a▸Z,fun a=>UInt8.toNat_inj.1 a⟩
theorem VZ(b a:UInt8):Nat.blt b.toNat a.toNat=decide (b<a):=by
 rw[abL,decide_eq_true_eq,UInt8.lt_iff_toNat_lt];show Nat.ble (b.toNat+1) a.toNat=true↔_;rw[Nat.ble_eq];exact Iff.rfl
theorem GO{c:Nat}(h:c<256):∀(b:cq) (a:Nat),indexByte b c a=if Lib.indexByte b c.toUInt8= -1 then-1 else(a:Int)+Lib.indexByte b c.toUInt8:=by
 intro b;induction b with
 |nil=>intro a;rfl
 |cons l b e=>
  intro a;simp only[indexByte,Lib.indexByte,Je l h];cases aet l.toNat c with
  |true=>simp
  |false=>
   simp only[e,Bool.false_eq_true,if_false,beq_iff_eq];have k:=Lib.indexByte_ge b c.toUInt8;by_cases f:Lib.indexByte b c.toUInt8= -1
   ·simp[f]
   ·rw[if_neg f,if_neg f,if_neg om];omega
theorem Em{c:Nat}(a:c<256)(l:cq):indexByte l c 0=Lib.indexByte l c.toUInt8:=by
 rw[GO a];split
 ·rename_i b;exact b.symm
 ·simp
theorem LP{c:Nat}(b:c<256)(l:cq):countB c l=Lib.countByte l c.toUInt8:=by
 unfold Lib.countByte;induction l with
 |nil=>rfl
 |cons e l a=>
  rw[List.count_cons,Je e b];simp only[countB];cases aet e.toNat c with
  |true=>simp[a]
  |false=>simp[a]
theorem SL:∀(f b:cq),yw f b=Lib.compareBytes f b:=by
 intro f;induction f with
 |nil=>intro b;cases b<;>rfl
 |cons k f a=>
  intro b;cases b with
  |nil=>rfl
  |cons h b=>
   have a:=a b;unfold yw at a⊢;simp only[Lib.compareBytes,cE,l8,VZ];by_cases l:k<h
   ·simp[l]
   ·simp only[l,decide_false,if_false];by_cases c:k=h
    ·subst c;simp only[Nat.beq_refl,l,if_false];exact a
    ·have m:aet k.toNat h.toNat=false:=by
      rw[<-Fp];simpa using c
     have e:h<k:=UInt8.lt_of_le_of_ne (UInt8.not_lt.1 l) (Ne.symm c);simp[m,e]
theorem PH:∀(a b:cq),pK a b=a.isPrefixOf b:=by
 intro a;induction a with
 |nil=>intro b;cases b<;>simp[pK]
 |cons f a c=>
  intro b;cases b with
  |nil=>simp[pK]
  |cons e b=>
   simp only[pK,List.isPrefixOf_cons_cons,Fp f e,c];cases aet f.toNat e.toNat<;>simp
theorem LQ(a:cq):∀(s:cq),hQ a s=Lib.contains s a:=by
 intro s;unfold Lib.contains;induction s with
 |nil=>cases a<;>simp[hQ,Lib.index]
 |cons f s h=>
  rw[abL,decide_eq_true_eq]at h⊢;have e:Lib.index (f::s) a=if a.isPrefixOf (f::s)then 0 else if Lib.index s a== -1 then-1 else Lib.index s a+1:=rfl
  have c:hQ a (f::s)=match pK a (f::s)with|true=>true|false=>hQ a s:=rfl
  rw[PH]at c;have k:=Lib.index_ge s a;by_cases b:a.isPrefixOf (f::s)=true
  ·rw[if_pos b]at e;rw[b]at c;rw[e,c];simp
  ·rw[if_neg b]at e;rw[Bool.not_eq_true]at b;rw[b]at c;rw[e,c];show hQ a s=true↔_;rw[h];by_cases l:Lib.index s a= -1
   ·simp[l]
   ·rw[if_neg (by simpa using l)];omega
end Go.AM
